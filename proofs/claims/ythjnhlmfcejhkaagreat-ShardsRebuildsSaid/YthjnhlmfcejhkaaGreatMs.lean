/- A part of the proof. Conditions: as each theorem says. -/
import Derived.Test.YthjnhlmfcejhkaaGreatMo
namespace Go.Proofs.YthjnhlmfcejhkaaGreat
set_option linter.unusedVariables false
def srt (zs : List Int) : Option (List Int) := if zs.length < 4611686018427387904 then some (zs.mergeSort fun x y => decide (x <= y)) else none
theorem srt_some {zs res : List Int} (h : srt zs = some res) : zs.length < 4611686018427387904 /\ res = zs.mergeSort fun x y => decide (x <= y) := by
 unfold srt at h; split at h
 ·rename_i hc; injection h with h; exact ⟨hc, h.symm⟩
 ·cases h
def mrangeK {β σ ρ : Type} [DecidableEq ρ] (es : List β) (body : β -> σ -> Option σ) (s : σ) (k : σ -> Option ρ) : Option ρ :=
 if ∀ l ∈ perms es, (mfold body l s).bind k = (mfold body es s).bind k then (mfold body es s).bind k else none
theorem mrangeK_some {β σ ρ : Type} [DecidableEq ρ] {es : List β} {body : β -> σ -> Option σ} {s : σ} {k : σ -> Option ρ} {t : ρ} (h : mrangeK es body s k = some t) : ∀ l : List β, l.Perm es -> (mfold body l s).bind k = some t := by
 unfold mrangeK at h; split at h
 ·rename_i hc; intro l hl; rw [hc l (mem_perms hl), h]
 ·cases h
theorem mrangeK_of {β σ ρ : Type} [DecidableEq ρ] {es : List β} {body : β -> σ -> Option σ} {s : σ} {k : σ -> Option ρ} {t : ρ} (h : ∀ l : List β, l.Perm es -> (mfold body l s).bind k = some t) : mrangeK es body s k = some t := by
 have h0 := h es (List.Perm.refl es)
 unfold mrangeK; rw [if_pos (fun l hl => (h l (perms_perm hl)).trans h0.symm), h0]
theorem mfoldK_next {β σ ρ : Type} {body : β -> σ -> Option σ} {s : σ} {k : σ -> Option ρ} {t : ρ} {left left' : List β} {p : β} (h : ∀ l : List β, l.Perm left -> (mfold body l s).bind k = some t) (hp : left.Perm (p :: left')) :
  ∃ s', body p s = some s' /\ ∀ l : List β, l.Perm left' -> (mfold body l s').bind k = some t := by
 obtain ⟨u, h1, h2⟩ := bnd (h (p :: left') hp.symm)
 obtain ⟨s', h3, h4⟩ := bnd h1
 refine ⟨s', h3, fun l hl => ?_⟩
 have h5 := h (p :: l) ((hl.cons p).trans hp.symm)
 simp only [mfold, h3, obs] at h5; exact h5
theorem mfoldK_done {β σ ρ : Type} {body : β -> σ -> Option σ} {s : σ} {k : σ -> Option ρ} {t : ρ} (h : ∀ l : List β, l.Perm [] -> (mfold body l s).bind k = some t) : k s = some t := h [] (List.Perm.refl _)
end Go.Proofs.YthjnhlmfcejhkaaGreat
