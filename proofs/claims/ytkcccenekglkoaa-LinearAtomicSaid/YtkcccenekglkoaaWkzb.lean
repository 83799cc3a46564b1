/-
 Walks (zb): what a function's model gives, the function returns. Printed by a program of ours (vcm.py) from the function's operations. Conditions: as each theorem says.
-/
import Derived.Test.YtkcccenekglkoaaWkza
import Derived.Test.YtkcccenekglkoaaMdzb
namespace Go.Proofs.Ytkcccenekglkoaa
set_option maxRecDepth 10000
open Go Go.RowKit
set_option linter.unusedVariables false
theorem und_130 : Try.prog.underlying 130 = some (.int .u64) := by kernel_rfl
theorem und_3 : Try.prog.underlying 3 = some (.int .i64) := by kernel_rfl
theorem und_5 : Try.prog.underlying 5 = some (.int .u8) := by kernel_rfl
theorem und_75 : Try.prog.underlying 75 = some (.int .u64) := by kernel_rfl
theorem und_9 : Try.prog.underlying 9 = some .string := by kernel_rfl
theorem nm_59 : (Try.f59.name == "runtime.NumGoroutine") = false := by kernel_rfl
theorem nm_61 : (Try.f61.name == "runtime.NumGoroutine") = false := by kernel_rfl
theorem nm_62 : (Try.f62.name == "runtime.NumGoroutine") = false := by kernel_rfl
theorem nm_63 : (Try.f63.name == "runtime.NumGoroutine") = false := by kernel_rfl
theorem nm_65 : (Try.f65.name == "runtime.NumGoroutine") = false := by kernel_rfl
theorem nm_66 : (Try.f66.name == "runtime.NumGoroutine") = false := by kernel_rfl
theorem nm_68 : (Try.f68.name == "runtime.NumGoroutine") = false := by kernel_rfl
theorem nm_69 : (Try.f69.name == "runtime.NumGoroutine") = false := by kernel_rfl
theorem nm_74 : (Try.f74.name == "runtime.NumGoroutine") = false := by kernel_rfl
theorem nm_76 : (Try.f76.name == "runtime.NumGoroutine") = false := by kernel_rfl
theorem nm_78 : (Try.f78.name == "runtime.NumGoroutine") = false := by kernel_rfl
theorem scal_130 : scal Try.prog 130 = true := by kernel_rfl
theorem siz_130 : (Try.prog.info? 130).map (·.size) = some 1 := by kernel_rfl
theorem some_26 : (Try.prog.underlying 26).isSome = true := by kernel_rfl
theorem some_3 : (Try.prog.underlying 3).isSome = true := by kernel_rfl
theorem some_5 : (Try.prog.underlying 5).isSome = true := by kernel_rfl
theorem some_75 : (Try.prog.underlying 75).isSome = true := by kernel_rfl
theorem zr_130 : (Try.prog.info? 130).map (fun i => i.zero.map (·.cells)) = some (some ([U64 0#64] : List Value).toArray) := by kernel_rfl
theorem zr_3 : (Try.prog.info? 3).map (fun i => i.zero.map (·.cells)) = some (some ([I64 (0 : Int)] : List Value).toArray) := by kernel_rfl
theorem w_math_bits_Len64 (M0 : Mem) (x00 : BitVec 64) {res : Int} (h : m_math_bits_Len64 x00 = some res) :
  Fn Try.prog 71 #[U64 x00] M0 fun r M' es => r = I64 res /\ es = [] := by
 refine Fn.intro (N := 25) Try.func71 rfl rfl (Nat.le_of_ble_eq_true rfl) fun w0 => ?_
 unfold m_math_bits_Len64 at h
 refine sr fun _ k1 => asn rfl <| dn <| k1 _ _ <| sq fun _ k2 => sr fun _ k3 => mv rfl <| ya (Yld.geq_u64 (a := x00) (b := 4294967296#64) rfl rfl) <| dn <| k3 _ _ <| cnd h rfl decide_eq_true decide_eq_false (fun hc4 h => ?_) fun hc4 h => ?_
 ·refine sr fun _ k5 => mv rfl <| ya (Yld.shrU_u64 (a := x00) (m := 32) rfl rfl) <| asn rfl <| dn <| k5 _ _ <| rg fun _ k6 => asn rfl <| dn <| k6 _ _ <| tn <| k2 _ _ <| sq fun _ k7 => sr fun _ k8 => mv rfl <| ya (Yld.geq_u64 (a := (x00 >>> 32)) (b := 65536#64) rfl rfl) <| dn <| k8 _ _ <| cnd h rfl decide_eq_true decide_eq_false (fun hc9 h => ?_) fun hc9 h => ?_
  ·refine sr fun _ k10 => mv rfl <| ya (Yld.shrU_u64 (a := (x00 >>> 32)) (m := 16) rfl rfl) <| asn rfl <| dn <| k10 _ _ <| rg fun _ k11 => ?_
   obtain ⟨x12, hx12, h⟩ := bnd h
   refine mv rfl <| ya (Yld.addC rfl rfl hx12) <| asn rfl <| dn <| k11 _ _ <| tn <| k7 _ _ <| sq fun _ k13 => sr fun _ k14 => mv rfl <| ya (Yld.geq_u64 (a := ((x00 >>> 32) >>> 16)) (b := 256#64) rfl rfl) <| dn <| k14 _ _ <| cnd h rfl decide_eq_true decide_eq_false (fun hc15 h => ?_) fun hc15 h => ?_
   ·refine sr fun _ k16 => mv rfl <| ya (Yld.shrU_u64 (a := ((x00 >>> 32) >>> 16)) (m := 8) rfl rfl) <| asn rfl <| dn <| k16 _ _ <| rg fun _ k17 => ?_
    obtain ⟨x18, hx18, h⟩ := bnd h
    refine mv rfl <| ya (Yld.addC rfl rfl hx18) <| asn rfl <| dn <| k17 _ _ <| tn <| k13 _ _ <| sr fun _ k19 => ?_
    obtain ⟨x20, hx20, h⟩ := bnd h
    obtain ⟨x21, hx21, h⟩ := bnd h
    refine mv rfl <| mv rfl <| ya (Yld.conv_u64_u8 (a := (((x00 >>> 32) >>> 16) >>> 8)) some_26 und_5 rfl) <| ya (Yld.idxStr (s := ([0#8, 1#8, 2#8, 2#8, 3#8, 3#8, 3#8, 3#8, 4#8, 4#8, 4#8, 4#8, 4#8, 4#8, 4#8, 4#8, 5#8, 5#8, 5#8, 5#8, 5#8, 5#8, 5#8, 5#8, 5#8, 5#8, 5#8, 5#8, 5#8, 5#8, 5#8, 5#8, 6#8, 6#8, 6#8, 6#8, 6#8, 6#8, 6#8, 6#8, 6#8, 6#8, 6#8, 6#8, 6#8, 6#8, 6#8, 6#8, 6#8, 6#8, 6#8, 6#8, 6#8, 6#8, 6#8, 6#8, 6#8, 6#8, 6#8, 6#8, 6#8, 6#8, 6#8, 6#8, 7#8, 7#8, 7#8, 7#8, 7#8, 7#8, 7#8, 7#8, 7#8, 7#8, 7#8, 7#8, 7#8, 7#8, 7#8, 7#8, 7#8, 7#8, 7#8, 7#8, 7#8, 7#8, 7#8, 7#8, 7#8, 7#8, 7#8, 7#8, 7#8, 7#8, 7#8, 7#8, 7#8, 7#8, 7#8, 7#8, 7#8, 7#8, 7#8, 7#8, 7#8, 7#8, 7#8, 7#8, 7#8, 7#8, 7#8, 7#8, 7#8, 7#8, 7#8, 7#8, 7#8, 7#8, 7#8, 7#8, 7#8, 7#8, 7#8, 7#8, 7#8, 7#8, 7#8, 7#8, 8#8, 8#8, 8#8, 8#8, 8#8, 8#8, 8#8, 8#8, 8#8, 8#8, 8#8, 8#8, 8#8, 8#8, 8#8, 8#8, 8#8, 8#8, 8#8, 8#8, 8#8, 8#8, 8#8, 8#8, 8#8, 8#8, 8#8, 8#8, 8#8, 8#8, 8#8, 8#8, 8#8, 8#8, 8#8, 8#8, 8#8, 8#8, 8#8, 8#8, 8#8, 8#8, 8#8, 8#8, 8#8, 8#8, 8#8, 8#8, 8#8, 8#8, 8#8, 8#8, 8#8, 8#8, 8#8, 8#8, 8#8, 8#8, 8#8, 8#8, 8#8, 8#8, 8#8, 8#8, 8#8, 8#8, 8#8, 8#8, 8#8, 8#8, 8#8, 8#8, 8#8, 8#8, 8#8, 8#8, 8#8, 8#8, 8#8, 8#8, 8#8, 8#8, 8#8, 8#8, 8#8, 8#8, 8#8, 8#8, 8#8, 8#8, 8#8, 8#8, 8#8, 8#8, 8#8, 8#8, 8#8, 8#8, 8#8, 8#8, 8#8, 8#8, 8#8, 8#8, 8#8, 8#8, 8#8, 8#8, 8#8, 8#8, 8#8, 8#8, 8#8, 8#8, 8#8, 8#8, 8#8, 8#8, 8#8, 8#8, 8#8, 8#8, 8#8, 8#8, 8#8, 8#8, 8#8, 8#8] : List (BitVec 8))) und_9 rfl rfl hx20) <| ya (Yld.conv_u8_i64 (a := x20) some_5 und_3 rfl) <| ya (Yld.addC rfl rfl hx21) <| asn rfl <| dn <| k19 _ _ <| re ?_
    injection h with h; subst h
    exact rt0 (ResIs.one rfl rfl)
   refine ss <| k13 _ _ <| sr fun _ k22 => ?_
   obtain ⟨x23, hx23, h⟩ := bnd h
   obtain ⟨x24, hx24, h⟩ := bnd h
   refine mv rfl <| mv rfl <| ya (Yld.conv_u64_u8 (a := ((x00 >>> 32) >>> 16)) some_26 und_5 rfl) <| ya (Yld.idxStr (s := ([0#8, 1#8, 2#8, 2#8, 3#8, 3#8, 3#8, 3#8, 4#8, 4#8, 4#8, 4#8, 4#8, 4#8, 4#8, 4#8, 5#8, 5#8, 5#8, 5#8, 5#8, 5#8, 5#8, 5#8, 5#8, 5#8, 5#8, 5#8, 5#8, 5#8, 5#8, 5#8, 6#8, 6#8, 6#8, 6#8, 6#8, 6#8, 6#8, 6#8, 6#8, 6#8, 6#8, 6#8, 6#8, 6#8, 6#8, 6#8, 6#8, 6#8, 6#8, 6#8, 6#8, 6#8, 6#8, 6#8, 6#8, 6#8, 6#8, 6#8, 6#8, 6#8, 6#8, 6#8, 7#8, 7#8, 7#8, 7#8, 7#8, 7#8, 7#8, 7#8, 7#8, 7#8, 7#8, 7#8, 7#8, 7#8, 7#8, 7#8, 7#8, 7#8, 7#8, 7#8, 7#8, 7#8, 7#8, 7#8, 7#8, 7#8, 7#8, 7#8, 7#8, 7#8, 7#8, 7#8, 7#8, 7#8, 7#8, 7#8, 7#8, 7#8, 7#8, 7#8, 7#8, 7#8, 7#8, 7#8, 7#8, 7#8, 7#8, 7#8, 7#8, 7#8, 7#8, 7#8, 7#8, 7#8, 7#8, 7#8, 7#8, 7#8, 7#8, 7#8, 7#8, 7#8, 7#8, 7#8, 8#8, 8#8, 8#8, 8#8, 8#8, 8#8, 8#8, 8#8, 8#8, 8#8, 8#8, 8#8, 8#8, 8#8, 8#8, 8#8, 8#8, 8#8, 8#8, 8#8, 8#8, 8#8, 8#8, 8#8, 8#8, 8#8, 8#8, 8#8, 8#8, 8#8, 8#8, 8#8, 8#8, 8#8, 8#8, 8#8, 8#8, 8#8, 8#8, 8#8, 8#8, 8#8, 8#8, 8#8, 8#8, 8#8, 8#8, 8#8, 8#8, 8#8, 8#8, 8#8, 8#8, 8#8, 8#8, 8#8, 8#8, 8#8, 8#8, 8#8, 8#8, 8#8, 8#8, 8#8, 8#8, 8#8, 8#8, 8#8, 8#8, 8#8, 8#8, 8#8, 8#8, 8#8, 8#8, 8#8, 8#8, 8#8, 8#8, 8#8, 8#8, 8#8, 8#8, 8#8, 8#8, 8#8, 8#8, 8#8, 8#8, 8#8, 8#8, 8#8, 8#8, 8#8, 8#8, 8#8, 8#8, 8#8, 8#8, 8#8, 8#8, 8#8, 8#8, 8#8, 8#8, 8#8, 8#8, 8#8, 8#8, 8#8, 8#8, 8#8, 8#8, 8#8, 8#8, 8#8, 8#8, 8#8, 8#8, 8#8, 8#8, 8#8, 8#8, 8#8, 8#8, 8#8, 8#8, 8#8] : List (BitVec 8))) und_9 rfl rfl hx23) <| ya (Yld.conv_u8_i64 (a := x23) some_5 und_3 rfl) <| ya (Yld.addC rfl rfl hx24) <| asn rfl <| dn <| k22 _ _ <| re ?_
   injection h with h; subst h
   exact rt0 (ResIs.one rfl rfl)
  refine ss <| k7 _ _ <| sq fun _ k25 => sr fun _ k26 => mv rfl <| ya (Yld.geq_u64 (a := (x00 >>> 32)) (b := 256#64) rfl rfl) <| dn <| k26 _ _ <| cnd h rfl decide_eq_true decide_eq_false (fun hc27 h => ?_) fun hc27 h => ?_
  ·refine sr fun _ k28 => mv rfl <| ya (Yld.shrU_u64 (a := (x00 >>> 32)) (m := 8) rfl rfl) <| asn rfl <| dn <| k28 _ _ <| rg fun _ k29 => ?_
   obtain ⟨x30, hx30, h⟩ := bnd h
   refine mv rfl <| ya (Yld.addC rfl rfl hx30) <| asn rfl <| dn <| k29 _ _ <| tn <| k25 _ _ <| sr fun _ k31 => ?_
   obtain ⟨x32, hx32, h⟩ := bnd h
   obtain ⟨x33, hx33, h⟩ := bnd h
   refine mv rfl <| mv rfl <| ya (Yld.conv_u64_u8 (a := ((x00 >>> 32) >>> 8)) some_26 und_5 rfl) <| ya (Yld.idxStr (s := ([0#8, 1#8, 2#8, 2#8, 3#8, 3#8, 3#8, 3#8, 4#8, 4#8, 4#8, 4#8, 4#8, 4#8, 4#8, 4#8, 5#8, 5#8, 5#8, 5#8, 5#8, 5#8, 5#8, 5#8, 5#8, 5#8, 5#8, 5#8, 5#8, 5#8, 5#8, 5#8, 6#8, 6#8, 6#8, 6#8, 6#8, 6#8, 6#8, 6#8, 6#8, 6#8, 6#8, 6#8, 6#8, 6#8, 6#8, 6#8, 6#8, 6#8, 6#8, 6#8, 6#8, 6#8, 6#8, 6#8, 6#8, 6#8, 6#8, 6#8, 6#8, 6#8, 6#8, 6#8, 7#8, 7#8, 7#8, 7#8, 7#8, 7#8, 7#8, 7#8, 7#8, 7#8, 7#8, 7#8, 7#8, 7#8, 7#8, 7#8, 7#8, 7#8, 7#8, 7#8, 7#8, 7#8, 7#8, 7#8, 7#8, 7#8, 7#8, 7#8, 7#8, 7#8, 7#8, 7#8, 7#8, 7#8, 7#8, 7#8, 7#8, 7#8, 7#8, 7#8, 7#8, 7#8, 7#8, 7#8, 7#8, 7#8, 7#8, 7#8, 7#8, 7#8, 7#8, 7#8, 7#8, 7#8, 7#8, 7#8, 7#8, 7#8, 7#8, 7#8, 7#8, 7#8, 7#8, 7#8, 8#8, 8#8, 8#8, 8#8, 8#8, 8#8, 8#8, 8#8, 8#8, 8#8, 8#8, 8#8, 8#8, 8#8, 8#8, 8#8, 8#8, 8#8, 8#8, 8#8, 8#8, 8#8, 8#8, 8#8, 8#8, 8#8, 8#8, 8#8, 8#8, 8#8, 8#8, 8#8, 8#8, 8#8, 8#8, 8#8, 8#8, 8#8, 8#8, 8#8, 8#8, 8#8, 8#8, 8#8, 8#8, 8#8, 8#8, 8#8, 8#8, 8#8, 8#8, 8#8, 8#8, 8#8, 8#8, 8#8, 8#8, 8#8, 8#8, 8#8, 8#8, 8#8, 8#8, 8#8, 8#8, 8#8, 8#8, 8#8, 8#8, 8#8, 8#8, 8#8, 8#8, 8#8, 8#8, 8#8, 8#8, 8#8, 8#8, 8#8, 8#8, 8#8, 8#8, 8#8, 8#8, 8#8, 8#8, 8#8, 8#8, 8#8, 8#8, 8#8, 8#8, 8#8, 8#8, 8#8, 8#8, 8#8, 8#8, 8#8, 8#8, 8#8, 8#8, 8#8, 8#8, 8#8, 8#8, 8#8, 8#8, 8#8, 8#8, 8#8, 8#8, 8#8, 8#8, 8#8, 8#8, 8#8, 8#8, 8#8, 8#8, 8#8, 8#8, 8#8, 8#8, 8#8, 8#8, 8#8] : List (BitVec 8))) und_9 rfl rfl hx32) <| ya (Yld.conv_u8_i64 (a := x32) some_5 und_3 rfl) <| ya (Yld.addC rfl rfl hx33) <| asn rfl <| dn <| k31 _ _ <| re ?_
   injection h with h; subst h
   exact rt0 (ResIs.one rfl rfl)
  refine ss <| k25 _ _ <| sr fun _ k34 => ?_
  obtain ⟨x35, hx35, h⟩ := bnd h
  obtain ⟨x36, hx36, h⟩ := bnd h
  refine mv rfl <| mv rfl <| ya (Yld.conv_u64_u8 (a := (x00 >>> 32)) some_26 und_5 rfl) <| ya (Yld.idxStr (s := ([0#8, 1#8, 2#8, 2#8, 3#8, 3#8, 3#8, 3#8, 4#8, 4#8, 4#8, 4#8, 4#8, 4#8, 4#8, 4#8, 5#8, 5#8, 5#8, 5#8, 5#8, 5#8, 5#8, 5#8, 5#8, 5#8, 5#8, 5#8, 5#8, 5#8, 5#8, 5#8, 6#8, 6#8, 6#8, 6#8, 6#8, 6#8, 6#8, 6#8, 6#8, 6#8, 6#8, 6#8, 6#8, 6#8, 6#8, 6#8, 6#8, 6#8, 6#8, 6#8, 6#8, 6#8, 6#8, 6#8, 6#8, 6#8, 6#8, 6#8, 6#8, 6#8, 6#8, 6#8, 7#8, 7#8, 7#8, 7#8, 7#8, 7#8, 7#8, 7#8, 7#8, 7#8, 7#8, 7#8, 7#8, 7#8, 7#8, 7#8, 7#8, 7#8, 7#8, 7#8, 7#8, 7#8, 7#8, 7#8, 7#8, 7#8, 7#8, 7#8, 7#8, 7#8, 7#8, 7#8, 7#8, 7#8, 7#8, 7#8, 7#8, 7#8, 7#8, 7#8, 7#8, 7#8, 7#8, 7#8, 7#8, 7#8, 7#8, 7#8, 7#8, 7#8, 7#8, 7#8, 7#8, 7#8, 7#8, 7#8, 7#8, 7#8, 7#8, 7#8, 7#8, 7#8, 7#8, 7#8, 8#8, 8#8, 8#8, 8#8, 8#8, 8#8, 8#8, 8#8, 8#8, 8#8, 8#8, 8#8, 8#8, 8#8, 8#8, 8#8, 8#8, 8#8, 8#8, 8#8, 8#8, 8#8, 8#8, 8#8, 8#8, 8#8, 8#8, 8#8, 8#8, 8#8, 8#8, 8#8, 8#8, 8#8, 8#8, 8#8, 8#8, 8#8, 8#8, 8#8, 8#8, 8#8, 8#8, 8#8, 8#8, 8#8, 8#8, 8#8, 8#8, 8#8, 8#8, 8#8, 8#8, 8#8, 8#8, 8#8, 8#8, 8#8, 8#8, 8#8, 8#8, 8#8, 8#8, 8#8, 8#8, 8#8, 8#8, 8#8, 8#8, 8#8, 8#8, 8#8, 8#8, 8#8, 8#8, 8#8, 8#8, 8#8, 8#8, 8#8, 8#8, 8#8, 8#8, 8#8, 8#8, 8#8, 8#8, 8#8, 8#8, 8#8, 8#8, 8#8, 8#8, 8#8, 8#8, 8#8, 8#8, 8#8, 8#8, 8#8, 8#8, 8#8, 8#8, 8#8, 8#8, 8#8, 8#8, 8#8, 8#8, 8#8, 8#8, 8#8, 8#8, 8#8, 8#8, 8#8, 8#8, 8#8, 8#8, 8#8, 8#8, 8#8, 8#8, 8#8, 8#8, 8#8, 8#8, 8#8] : List (BitVec 8))) und_9 rfl rfl hx35) <| ya (Yld.conv_u8_i64 (a := x35) some_5 und_3 rfl) <| ya (Yld.addC rfl rfl hx36) <| asn rfl <| dn <| k34 _ _ <| re ?_
  injection h with h; subst h
  exact rt0 (ResIs.one rfl rfl)
 refine ss <| k2 _ _ <| sq fun _ k37 => sr fun _ k38 => mv rfl <| ya (Yld.geq_u64 (a := x00) (b := 65536#64) rfl rfl) <| dn <| k38 _ _ <| cnd h rfl decide_eq_true decide_eq_false (fun hc39 h => ?_) fun hc39 h => ?_
 ·refine sr fun _ k40 => mv rfl <| ya (Yld.shrU_u64 (a := x00) (m := 16) rfl rfl) <| asn rfl <| dn <| k40 _ _ <| rg fun _ k41 => ?_
  obtain ⟨x42, hx42, h⟩ := bnd h
  refine mv rfl <| ya (Yld.addC rfl rfl hx42) <| asn rfl <| dn <| k41 _ _ <| tn <| k37 _ _ <| sq fun _ k43 => sr fun _ k44 => mv rfl <| ya (Yld.geq_u64 (a := (x00 >>> 16)) (b := 256#64) rfl rfl) <| dn <| k44 _ _ <| cnd h rfl decide_eq_true decide_eq_false (fun hc45 h => ?_) fun hc45 h => ?_
  ·refine sr fun _ k46 => mv rfl <| ya (Yld.shrU_u64 (a := (x00 >>> 16)) (m := 8) rfl rfl) <| asn rfl <| dn <| k46 _ _ <| rg fun _ k47 => ?_
   obtain ⟨x48, hx48, h⟩ := bnd h
   refine mv rfl <| ya (Yld.addC rfl rfl hx48) <| asn rfl <| dn <| k47 _ _ <| tn <| k43 _ _ <| sr fun _ k49 => ?_
   obtain ⟨x50, hx50, h⟩ := bnd h
   obtain ⟨x51, hx51, h⟩ := bnd h
   refine mv rfl <| mv rfl <| ya (Yld.conv_u64_u8 (a := ((x00 >>> 16) >>> 8)) some_26 und_5 rfl) <| ya (Yld.idxStr (s := ([0#8, 1#8, 2#8, 2#8, 3#8, 3#8, 3#8, 3#8, 4#8, 4#8, 4#8, 4#8, 4#8, 4#8, 4#8, 4#8, 5#8, 5#8, 5#8, 5#8, 5#8, 5#8, 5#8, 5#8, 5#8, 5#8, 5#8, 5#8, 5#8, 5#8, 5#8, 5#8, 6#8, 6#8, 6#8, 6#8, 6#8, 6#8, 6#8, 6#8, 6#8, 6#8, 6#8, 6#8, 6#8, 6#8, 6#8, 6#8, 6#8, 6#8, 6#8, 6#8, 6#8, 6#8, 6#8, 6#8, 6#8, 6#8, 6#8, 6#8, 6#8, 6#8, 6#8, 6#8, 7#8, 7#8, 7#8, 7#8, 7#8, 7#8, 7#8, 7#8, 7#8, 7#8, 7#8, 7#8, 7#8, 7#8, 7#8, 7#8, 7#8, 7#8, 7#8, 7#8, 7#8, 7#8, 7#8, 7#8, 7#8, 7#8, 7#8, 7#8, 7#8, 7#8, 7#8, 7#8, 7#8, 7#8, 7#8, 7#8, 7#8, 7#8, 7#8, 7#8, 7#8, 7#8, 7#8, 7#8, 7#8, 7#8, 7#8, 7#8, 7#8, 7#8, 7#8, 7#8, 7#8, 7#8, 7#8, 7#8, 7#8, 7#8, 7#8, 7#8, 7#8, 7#8, 7#8, 7#8, 8#8, 8#8, 8#8, 8#8, 8#8, 8#8, 8#8, 8#8, 8#8, 8#8, 8#8, 8#8, 8#8, 8#8, 8#8, 8#8, 8#8, 8#8, 8#8, 8#8, 8#8, 8#8, 8#8, 8#8, 8#8, 8#8, 8#8, 8#8, 8#8, 8#8, 8#8, 8#8, 8#8, 8#8, 8#8, 8#8, 8#8, 8#8, 8#8, 8#8, 8#8, 8#8, 8#8, 8#8, 8#8, 8#8, 8#8, 8#8, 8#8, 8#8, 8#8, 8#8, 8#8, 8#8, 8#8, 8#8, 8#8, 8#8, 8#8, 8#8, 8#8, 8#8, 8#8, 8#8, 8#8, 8#8, 8#8, 8#8, 8#8, 8#8, 8#8, 8#8, 8#8, 8#8, 8#8, 8#8, 8#8, 8#8, 8#8, 8#8, 8#8, 8#8, 8#8, 8#8, 8#8, 8#8, 8#8, 8#8, 8#8, 8#8, 8#8, 8#8, 8#8, 8#8, 8#8, 8#8, 8#8, 8#8, 8#8, 8#8, 8#8, 8#8, 8#8, 8#8, 8#8, 8#8, 8#8, 8#8, 8#8, 8#8, 8#8, 8#8, 8#8, 8#8, 8#8, 8#8, 8#8, 8#8, 8#8, 8#8, 8#8, 8#8, 8#8, 8#8, 8#8, 8#8, 8#8, 8#8] : List (BitVec 8))) und_9 rfl rfl hx50) <| ya (Yld.conv_u8_i64 (a := x50) some_5 und_3 rfl) <| ya (Yld.addC rfl rfl hx51) <| asn rfl <| dn <| k49 _ _ <| re ?_
   injection h with h; subst h
   exact rt0 (ResIs.one rfl rfl)
  refine ss <| k43 _ _ <| sr fun _ k52 => ?_
  obtain ⟨x53, hx53, h⟩ := bnd h
  obtain ⟨x54, hx54, h⟩ := bnd h
  refine mv rfl <| mv rfl <| ya (Yld.conv_u64_u8 (a := (x00 >>> 16)) some_26 und_5 rfl) <| ya (Yld.idxStr (s := ([0#8, 1#8, 2#8, 2#8, 3#8, 3#8, 3#8, 3#8, 4#8, 4#8, 4#8, 4#8, 4#8, 4#8, 4#8, 4#8, 5#8, 5#8, 5#8, 5#8, 5#8, 5#8, 5#8, 5#8, 5#8, 5#8, 5#8, 5#8, 5#8, 5#8, 5#8, 5#8, 6#8, 6#8, 6#8, 6#8, 6#8, 6#8, 6#8, 6#8, 6#8, 6#8, 6#8, 6#8, 6#8, 6#8, 6#8, 6#8, 6#8, 6#8, 6#8, 6#8, 6#8, 6#8, 6#8, 6#8, 6#8, 6#8, 6#8, 6#8, 6#8, 6#8, 6#8, 6#8, 7#8, 7#8, 7#8, 7#8, 7#8, 7#8, 7#8, 7#8, 7#8, 7#8, 7#8, 7#8, 7#8, 7#8, 7#8, 7#8, 7#8, 7#8, 7#8, 7#8, 7#8, 7#8, 7#8, 7#8, 7#8, 7#8, 7#8, 7#8, 7#8, 7#8, 7#8, 7#8, 7#8, 7#8, 7#8, 7#8, 7#8, 7#8, 7#8, 7#8, 7#8, 7#8, 7#8, 7#8, 7#8, 7#8, 7#8, 7#8, 7#8, 7#8, 7#8, 7#8, 7#8, 7#8, 7#8, 7#8, 7#8, 7#8, 7#8, 7#8, 7#8, 7#8, 7#8, 7#8, 8#8, 8#8, 8#8, 8#8, 8#8, 8#8, 8#8, 8#8, 8#8, 8#8, 8#8, 8#8, 8#8, 8#8, 8#8, 8#8, 8#8, 8#8, 8#8, 8#8, 8#8, 8#8, 8#8, 8#8, 8#8, 8#8, 8#8, 8#8, 8#8, 8#8, 8#8, 8#8, 8#8, 8#8, 8#8, 8#8, 8#8, 8#8, 8#8, 8#8, 8#8, 8#8, 8#8, 8#8, 8#8, 8#8, 8#8, 8#8, 8#8, 8#8, 8#8, 8#8, 8#8, 8#8, 8#8, 8#8, 8#8, 8#8, 8#8, 8#8, 8#8, 8#8, 8#8, 8#8, 8#8, 8#8, 8#8, 8#8, 8#8, 8#8, 8#8, 8#8, 8#8, 8#8, 8#8, 8#8, 8#8, 8#8, 8#8, 8#8, 8#8, 8#8, 8#8, 8#8, 8#8, 8#8, 8#8, 8#8, 8#8, 8#8, 8#8, 8#8, 8#8, 8#8, 8#8, 8#8, 8#8, 8#8, 8#8, 8#8, 8#8, 8#8, 8#8, 8#8, 8#8, 8#8, 8#8, 8#8, 8#8, 8#8, 8#8, 8#8, 8#8, 8#8, 8#8, 8#8, 8#8, 8#8, 8#8, 8#8, 8#8, 8#8, 8#8, 8#8, 8#8, 8#8, 8#8, 8#8] : List (BitVec 8))) und_9 rfl rfl hx53) <| ya (Yld.conv_u8_i64 (a := x53) some_5 und_3 rfl) <| ya (Yld.addC rfl rfl hx54) <| asn rfl <| dn <| k52 _ _ <| re ?_
  injection h with h; subst h
  exact rt0 (ResIs.one rfl rfl)
 refine ss <| k37 _ _ <| sq fun _ k55 => sr fun _ k56 => mv rfl <| ya (Yld.geq_u64 (a := x00) (b := 256#64) rfl rfl) <| dn <| k56 _ _ <| cnd h rfl decide_eq_true decide_eq_false (fun hc57 h => ?_) fun hc57 h => ?_
 ·refine sr fun _ k58 => mv rfl <| ya (Yld.shrU_u64 (a := x00) (m := 8) rfl rfl) <| asn rfl <| dn <| k58 _ _ <| rg fun _ k59 => ?_
  obtain ⟨x60, hx60, h⟩ := bnd h
  refine mv rfl <| ya (Yld.addC rfl rfl hx60) <| asn rfl <| dn <| k59 _ _ <| tn <| k55 _ _ <| sr fun _ k61 => ?_
  obtain ⟨x62, hx62, h⟩ := bnd h
  obtain ⟨x63, hx63, h⟩ := bnd h
  refine mv rfl <| mv rfl <| ya (Yld.conv_u64_u8 (a := (x00 >>> 8)) some_26 und_5 rfl) <| ya (Yld.idxStr (s := ([0#8, 1#8, 2#8, 2#8, 3#8, 3#8, 3#8, 3#8, 4#8, 4#8, 4#8, 4#8, 4#8, 4#8, 4#8, 4#8, 5#8, 5#8, 5#8, 5#8, 5#8, 5#8, 5#8, 5#8, 5#8, 5#8, 5#8, 5#8, 5#8, 5#8, 5#8, 5#8, 6#8, 6#8, 6#8, 6#8, 6#8, 6#8, 6#8, 6#8, 6#8, 6#8, 6#8, 6#8, 6#8, 6#8, 6#8, 6#8, 6#8, 6#8, 6#8, 6#8, 6#8, 6#8, 6#8, 6#8, 6#8, 6#8, 6#8, 6#8, 6#8, 6#8, 6#8, 6#8, 7#8, 7#8, 7#8, 7#8, 7#8, 7#8, 7#8, 7#8, 7#8, 7#8, 7#8, 7#8, 7#8, 7#8, 7#8, 7#8, 7#8, 7#8, 7#8, 7#8, 7#8, 7#8, 7#8, 7#8, 7#8, 7#8, 7#8, 7#8, 7#8, 7#8, 7#8, 7#8, 7#8, 7#8, 7#8, 7#8, 7#8, 7#8, 7#8, 7#8, 7#8, 7#8, 7#8, 7#8, 7#8, 7#8, 7#8, 7#8, 7#8, 7#8, 7#8, 7#8, 7#8, 7#8, 7#8, 7#8, 7#8, 7#8, 7#8, 7#8, 7#8, 7#8, 7#8, 7#8, 8#8, 8#8, 8#8, 8#8, 8#8, 8#8, 8#8, 8#8, 8#8, 8#8, 8#8, 8#8, 8#8, 8#8, 8#8, 8#8, 8#8, 8#8, 8#8, 8#8, 8#8, 8#8, 8#8, 8#8, 8#8, 8#8, 8#8, 8#8, 8#8, 8#8, 8#8, 8#8, 8#8, 8#8, 8#8, 8#8, 8#8, 8#8, 8#8, 8#8, 8#8, 8#8, 8#8, 8#8, 8#8, 8#8, 8#8, 8#8, 8#8, 8#8, 8#8, 8#8, 8#8, 8#8, 8#8, 8#8, 8#8, 8#8, 8#8, 8#8, 8#8, 8#8, 8#8, 8#8, 8#8, 8#8, 8#8, 8#8, 8#8, 8#8, 8#8, 8#8, 8#8, 8#8, 8#8, 8#8, 8#8, 8#8, 8#8, 8#8, 8#8, 8#8, 8#8, 8#8, 8#8, 8#8, 8#8, 8#8, 8#8, 8#8, 8#8, 8#8, 8#8, 8#8, 8#8, 8#8, 8#8, 8#8, 8#8, 8#8, 8#8, 8#8, 8#8, 8#8, 8#8, 8#8, 8#8, 8#8, 8#8, 8#8, 8#8, 8#8, 8#8, 8#8, 8#8, 8#8, 8#8, 8#8, 8#8, 8#8, 8#8, 8#8, 8#8, 8#8, 8#8, 8#8, 8#8, 8#8] : List (BitVec 8))) und_9 rfl rfl hx62) <| ya (Yld.conv_u8_i64 (a := x62) some_5 und_3 rfl) <| ya (Yld.addC rfl rfl hx63) <| asn rfl <| dn <| k61 _ _ <| re ?_
  injection h with h; subst h
  exact rt0 (ResIs.one rfl rfl)
 refine ss <| k55 _ _ <| sr fun _ k64 => ?_
 obtain ⟨x65, hx65, h⟩ := bnd h
 obtain ⟨x66, hx66, h⟩ := bnd h
 refine mv rfl <| mv rfl <| ya (Yld.conv_u64_u8 (a := x00) some_26 und_5 rfl) <| ya (Yld.idxStr (s := ([0#8, 1#8, 2#8, 2#8, 3#8, 3#8, 3#8, 3#8, 4#8, 4#8, 4#8, 4#8, 4#8, 4#8, 4#8, 4#8, 5#8, 5#8, 5#8, 5#8, 5#8, 5#8, 5#8, 5#8, 5#8, 5#8, 5#8, 5#8, 5#8, 5#8, 5#8, 5#8, 6#8, 6#8, 6#8, 6#8, 6#8, 6#8, 6#8, 6#8, 6#8, 6#8, 6#8, 6#8, 6#8, 6#8, 6#8, 6#8, 6#8, 6#8, 6#8, 6#8, 6#8, 6#8, 6#8, 6#8, 6#8, 6#8, 6#8, 6#8, 6#8, 6#8, 6#8, 6#8, 7#8, 7#8, 7#8, 7#8, 7#8, 7#8, 7#8, 7#8, 7#8, 7#8, 7#8, 7#8, 7#8, 7#8, 7#8, 7#8, 7#8, 7#8, 7#8, 7#8, 7#8, 7#8, 7#8, 7#8, 7#8, 7#8, 7#8, 7#8, 7#8, 7#8, 7#8, 7#8, 7#8, 7#8, 7#8, 7#8, 7#8, 7#8, 7#8, 7#8, 7#8, 7#8, 7#8, 7#8, 7#8, 7#8, 7#8, 7#8, 7#8, 7#8, 7#8, 7#8, 7#8, 7#8, 7#8, 7#8, 7#8, 7#8, 7#8, 7#8, 7#8, 7#8, 7#8, 7#8, 8#8, 8#8, 8#8, 8#8, 8#8, 8#8, 8#8, 8#8, 8#8, 8#8, 8#8, 8#8, 8#8, 8#8, 8#8, 8#8, 8#8, 8#8, 8#8, 8#8, 8#8, 8#8, 8#8, 8#8, 8#8, 8#8, 8#8, 8#8, 8#8, 8#8, 8#8, 8#8, 8#8, 8#8, 8#8, 8#8, 8#8, 8#8, 8#8, 8#8, 8#8, 8#8, 8#8, 8#8, 8#8, 8#8, 8#8, 8#8, 8#8, 8#8, 8#8, 8#8, 8#8, 8#8, 8#8, 8#8, 8#8, 8#8, 8#8, 8#8, 8#8, 8#8, 8#8, 8#8, 8#8, 8#8, 8#8, 8#8, 8#8, 8#8, 8#8, 8#8, 8#8, 8#8, 8#8, 8#8, 8#8, 8#8, 8#8, 8#8, 8#8, 8#8, 8#8, 8#8, 8#8, 8#8, 8#8, 8#8, 8#8, 8#8, 8#8, 8#8, 8#8, 8#8, 8#8, 8#8, 8#8, 8#8, 8#8, 8#8, 8#8, 8#8, 8#8, 8#8, 8#8, 8#8, 8#8, 8#8, 8#8, 8#8, 8#8, 8#8, 8#8, 8#8, 8#8, 8#8, 8#8, 8#8, 8#8, 8#8, 8#8, 8#8, 8#8, 8#8, 8#8, 8#8, 8#8, 8#8] : List (BitVec 8))) und_9 rfl rfl hx65) <| ya (Yld.conv_u8_i64 (a := x65) some_5 und_3 rfl) <| ya (Yld.addC rfl rfl hx66) <| asn rfl <| dn <| k64 _ _ <| re ?_
 injection h with h; subst h
 exact rt0 (ResIs.one rfl rfl)
theorem w_math_bits_Len (M0 : Mem) (x00 : BitVec 64) {res : Int} (h : m_math_bits_Len x00 = some res) :
  Fn Try.prog 60 #[U64 x00] M0 fun r M' es => r = I64 res /\ es = [] := by
 refine Fn.intro (N := 8) Try.func60 rfl rfl (Nat.le_of_ble_eq_true rfl) fun w0 => ?_
 unfold m_math_bits_Len at h
 refine sr fun _ k1 => asn rfl <| dn <| k1 _ _ <| sq fun _ k2 => cdF rfl <| ss <| k2 _ _ <| sr fun _ k3 => ?_
 obtain ⟨x4, hx4, h⟩ := bnd h
 refine mv rfl <| c0 Try.func71 rfl (fun w hb hh => w_math_bits_Len64 (Mem.snap w) x00 hx4) <| asn rfl <| dn <| k3 _ _ <| re ?_
 injection h with h; subst h
 exact rt0 (ResIs.one rfl rfl)
theorem w_slices_nextPowerOfTwo (M0 : Mem) (x00 : Int) {res : (BitVec 64)} (h : m_slices_nextPowerOfTwo x00 = some res) :
  Fn Try.prog 73 #[I64 x00] M0 fun r M' es => r = U64 res /\ es = [] := by
 refine Fn.intro (N := 7) Try.func73 rfl rfl (Nat.le_of_ble_eq_true rfl) fun w0 => ?_
 unfold m_slices_nextPowerOfTwo at h
 refine sr fun _ k1 => ya (Yld.assign (v := U64 0#64) rfl) <| dn <| k1 _ _ <| sr fun _ k2 => ?_
 obtain ⟨x3, hx3, h⟩ := bnd h
 obtain ⟨x5, hx5, h⟩ := bnd h
 refine mv rfl <| ya (Yld.conv_i64_u64 some_3 und_75 rfl) <| c0 Try.func60 rfl (fun w hb hh => w_math_bits_Len (Mem.snap w) (BitVec.ofInt 64 x00) hx3) <| ya (Yld.shlC_u64 (a := 1#64) rfl rfl hx5) <| asn rfl <| dn <| k2 _ _ <| re ?_
 injection h with h; subst h
 exact rt0 (ResIs.one rfl rfl)
theorem w_slices_breakPatternsOrdered_uint64 (A : Option Addr) (n c : Nat) (x0c : List (BitVec 64)) (x01 x02 : Int) {res : List (BitVec 64)} (h : m_slices_breakPatternsOrdered_uint64 x0c x01 x02 = some res) :
  Mut Try.prog 63 #[.slice A n c, I64 x01, I64 x02] 26 (Lay.sz (BitVec 64)) A n c (cel x0c) fun r ds => r = .tuple #[] /\ ds = cel res := by
 refine Mut.intro (N := 65) Try.func63 rfl rfl (Nat.le_of_ble_eq_true rfl) fun w0 e0 => ?_
 unfold m_slices_breakPatternsOrdered_uint64 at h
 refine sr fun _ k1 => ?_
 obtain ⟨x2, hx2, h⟩ := bnd h
 refine mv rfl <| mv rfl <| ya (Yld.subC rfl rfl hx2) <| asn rfl <| dn <| k1 _ _ <| sr fun _ k3 => mv rfl <| ya (Yld.geq rfl rfl) <| dn <| k3 _ _ <| cnd h rfl decide_eq_true decide_eq_false (fun hc4 h => ?_) fun hc4 h => ?_
 ·refine sr fun _ k5 => mv rfl <| ya (Yld.conv_i64_u64 some_3 und_130 rfl) <| al 106 zr_130 fun g6 => WL.eff0 (Eff0.storeB 106 siz_130 rfl rfl rfl rfl (Nat.le_of_ble_eq_true rfl)) <| dn <| k5 _ _ <| sr fun _ k7 => ?_
  obtain ⟨x8, hx8, h⟩ := bnd h
  refine mv rfl <| c0 Try.func73 rfl (fun w hb hh => w_slices_nextPowerOfTwo (Mem.snap w) x2 hx8) <| asn rfl <| dn <| k7 _ _ <| sr fun _ k10 => ?_
  obtain ⟨x11, hx11, h⟩ := bnd h
  obtain ⟨x12, hx12, h⟩ := bnd h
  obtain ⟨x13, hx13, h⟩ := bnd h
  obtain ⟨x14, hx14, h⟩ := bnd h
  refine mv rfl <| mv rfl <| ya (Yld.quoC rfl rfl hx11) <| ya (Yld.mulC rfl rfl hx12) <| ya (Yld.addC rfl rfl hx13) <| ya (Yld.subC rfl rfl hx14) <| asn rfl <| dn <| k10 _ _ <| bl <| lp (τ := (List (BitVec 64)) × (BitVec 64) × Int) (fun ⟨x15, x16, x17⟩ => [(0, .slice A n c), (1, I64 x01), (6, I64 x2), (7, .pointer (some ⟨g6, 0, none⟩)), (8, U64 x8), (9, I64 x17)]) (fun ⟨x15, x16, x17⟩ => [(1, e0), (2, .own 26 (Lay.sz (BitVec 64)) A n c (cel x15)), (106, .blk g6 130 [U64 x16])]) (fun q18 ⟨x15, x16, x17⟩ => m_slices_breakPatternsOrdered_uint64_l0 x01 x2 x8 q18 x15 x16 x17 = some res) ⟨x0c, BitVec.ofInt 64 x2, x14⟩ ?_ (by simp [m_slices_breakPatternsOrdered_uint64_l0]) ?_
  ·exact h
  rintro q18 ⟨x15, x16, x17⟩ h _ k19
  unfold m_slices_breakPatternsOrdered_uint64_l0 at h
  refine sq fun _ k20 => sr fun _ k21 => ?_
  obtain ⟨x22, hx22, h⟩ := bnd h
  obtain ⟨x23, hx23, h⟩ := bnd h
  obtain ⟨x24, hx24, h⟩ := bnd h
  obtain ⟨x25, hx25, h⟩ := bnd h
  refine mv rfl <| mv rfl <| mv rfl <| ya (Yld.quoC rfl rfl hx22) <| ya (Yld.mulC rfl rfl hx23) <| ya (Yld.addC rfl rfl hx24) <| ya (Yld.addC rfl rfl hx25) <| ya (Yld.leq rfl rfl) <| dn <| k21 _ _ <| cnd h rfl decide_eq_true decide_eq_false (fun hc26 h => ?_) fun hc26 h => ?_
  ·refine ss <| k20 _ _ <| sq fun _ k27 => bl <| sr fun _ k28 => WL.inl (by decide) Try.func74 nm_74 rfl rfl (Tri.intro (N := 33) Try.func74 rfl rfl (Nat.le_of_ble_eq_true rfl) ?_)
   refine sr fun _ k29 => ya (Yld.assign (v := U64 0#64) rfl) <| dn <| k29 _ _ <| ctd [(1, _), (2, _)] (σ := Unit) (fun _ => [(0, .pointer (some ⟨g6, 0, none⟩))]) (fun _ => [(1, e0), (2, .own 26 (Lay.sz (BitVec 64)) A n c (cel x15)), (106, .blk g6 130 [U64 (x16 ^^^ (x16 <<< 13))])]) (fun _ => m_slices_breakPatternsOrdered_uint64_j1 x01 x2 x8 x15 x16 x17 (m_slices_breakPatternsOrdered_uint64_l0 x01 x2 x8 q18) = some res) mixed (fun _ k30 => ?_) ?_
   ·refine dm 0 rfl rfl <| du 1 rfl (Yld.nilCheckP rfl) <| dm 3 rfl rfl <| du 4 rfl (Yld.nilCheckP rfl) <| WD.two 2 5 (by kernel_rfl) ?_ ?_
    ·exact dy rfl (Yld.loadB (k := 106) scal_130 rfl rfl rfl) <| on 5 <| dy rfl (Yld.loadB (k := 106) scal_130 rfl rfl rfl) <| du 6 rfl (Yld.shlU_u64 (a := x16) (m := 13) rfl rfl) <| du 7 rfl (Yld.xor_u64 (a := x16) (b := (x16 <<< 13)) rfl rfl) <| du 8 rfl (Yld.nilCheckP rfl) <| on 9 <| WS.eff0 rfl (Eff0.storeB 106 siz_130 rfl rfl rfl rfl (Nat.le_of_ble_eq_true rfl)) (sc (sc sn)) <| WD.done (by kernel_rfl) <| kw (k30 () h)
    skip
    exact dy rfl (Yld.loadB (k := 106) scal_130 rfl rfl rfl) <| du 6 rfl (Yld.shlU_u64 (a := x16) (m := 13) rfl rfl) <| on 2 <| dy rfl (Yld.loadB (k := 106) scal_130 rfl rfl rfl) <| du 7 rfl (Yld.xor_u64 (a := x16) (b := (x16 <<< 13)) rfl rfl) <| du 8 rfl (Yld.nilCheckP rfl) <| on 9 <| WS.eff0 rfl (Eff0.storeB 106 siz_130 rfl rfl rfl rfl (Nat.le_of_ble_eq_true rfl)) (sc (sc sn)) <| WD.done (by kernel_rfl) <| kw (k30 () h)
   rintro _ h
   unfold m_slices_breakPatternsOrdered_uint64_j1 at h
   refine sd [(1, _), (2, _)] mixed fun _ k32 => ?_
   refine dm 0 rfl rfl <| du 1 rfl (Yld.nilCheckP rfl) <| dm 3 rfl rfl <| du 4 rfl (Yld.nilCheckP rfl) <| WD.two 2 5 (by kernel_rfl) ?_ ?_
   ·refine dy rfl (Yld.loadB (k := 106) scal_130 rfl rfl rfl) <| on 5 <| dy rfl (Yld.loadB (k := 106) scal_130 rfl rfl rfl) <| du 6 rfl (Yld.shrU_u64 (a := (x16 ^^^ (x16 <<< 13))) (m := 7) rfl rfl) <| du 7 rfl (Yld.xor_u64 (a := (x16 ^^^ (x16 <<< 13))) (b := ((x16 ^^^ (x16 <<< 13)) >>> 7)) rfl rfl) <| du 8 rfl (Yld.nilCheckP rfl) <| on 9 <| WS.eff0 rfl (Eff0.storeB 106 siz_130 rfl rfl rfl rfl (Nat.le_of_ble_eq_true rfl)) (sc (sc sn)) <| dd <| k32 _ _ <| sd [(1, _), (2, _)] mixed fun _ k33 => ?_
    refine dm 0 rfl rfl <| du 1 rfl (Yld.nilCheckP rfl) <| dm 3 rfl rfl <| du 4 rfl (Yld.nilCheckP rfl) <| WD.two 2 5 (by kernel_rfl) ?_ ?_
    ·refine dy rfl (Yld.loadB (k := 106) scal_130 rfl rfl rfl) <| on 5 <| dy rfl (Yld.loadB (k := 106) scal_130 rfl rfl rfl) <| du 6 rfl (Yld.shlU_u64 (a := ((x16 ^^^ (x16 <<< 13)) ^^^ ((x16 ^^^ (x16 <<< 13)) >>> 7))) (m := 17) rfl rfl) <| du 7 rfl (Yld.xor_u64 (a := ((x16 ^^^ (x16 <<< 13)) ^^^ ((x16 ^^^ (x16 <<< 13)) >>> 7))) (b := (((x16 ^^^ (x16 <<< 13)) ^^^ ((x16 ^^^ (x16 <<< 13)) >>> 7)) <<< 17)) rfl rfl) <| du 8 rfl (Yld.nilCheckP rfl) <| on 9 <| WS.eff0 rfl (Eff0.storeB 106 siz_130 rfl rfl rfl rfl (Nat.le_of_ble_eq_true rfl)) (sc (sc sn)) <| dd <| k33 _ _ <| sr fun _ k34 => mv rfl <| ya (Yld.nilCheckP rfl) <| ya (Yld.loadB (k := 106) scal_130 rfl rfl rfl) <| asn rfl <| dn <| k34 _ _ <| re <| Ret.go (ResIs.one rfl rfl) <| mv rfl <| ya (Yld.sub_u64 (a := x8) (b := 1#64) rfl rfl) <| ya (Yld.and_u64 (a := (((x16 ^^^ (x16 <<< 13)) ^^^ ((x16 ^^^ (x16 <<< 13)) >>> 7)) ^^^ (((x16 ^^^ (x16 <<< 13)) ^^^ ((x16 ^^^ (x16 <<< 13)) >>> 7)) <<< 17))) (b := (x8 - 1#64)) rfl rfl) <| ya (Yld.conv_u64_i64 (a := ((((x16 ^^^ (x16 <<< 13)) ^^^ ((x16 ^^^ (x16 <<< 13)) >>> 7)) ^^^ (((x16 ^^^ (x16 <<< 13)) ^^^ ((x16 ^^^ (x16 <<< 13)) >>> 7)) <<< 17)) &&& (x8 - 1#64))) some_75 und_3 rfl) <| asn rfl <| dn <| k28 _ _ <| sq fun _ k35 => sr fun _ k36 => mv rfl <| mv rfl <| ya (Yld.geq rfl rfl) <| dn <| k36 _ _ <| cnd h rfl decide_eq_true decide_eq_false (fun hc37 h => ?_) fun hc37 h => ?_
     ·refine rg fun _ k38 => ?_
      obtain ⟨x39, hx39, h⟩ := bnd h
      refine mv rfl <| mv rfl <| ya (Yld.subC rfl rfl hx39) <| asn rfl <| dn <| k38 _ _ <| tn <| k35 _ _ <| rd [(1, _), (106, _)] mixed fun _ k40 => ?_
      obtain ⟨x41, hx41, h⟩ := bnd h
      obtain ⟨x42, hx42, h⟩ := bnd h
      obtain ⟨x43, hx43, h⟩ := bnd h
      obtain ⟨x44, hx44, h⟩ := bnd h
      obtain ⟨x45, hx45, h⟩ := bnd h
      obtain ⟨x46, hx46, h⟩ := bnd h
      obtain ⟨x47, hx47, h⟩ := bnd h
      obtain ⟨x48, hx48, h⟩ := bnd h
      refine dm 0 rfl rfl <| dm 1 rfl rfl <| dm 2 rfl rfl <| dm 3 rfl rfl <| dm 4 rfl rfl <| du 5 rfl (Yld.addC rfl rfl hx41) <| dm 6 rfl rfl <| dm 7 rfl rfl <| dm 8 rfl rfl <| du 9 rfl (Yld.addC rfl rfl hx42) <| dm 12 rfl rfl <| dm 13 rfl rfl <| WD.two 10 14 (by kernel_rfl) ?_ ?_
      ·refine dy rfl (Yld.idxC (xs := x15) sty_63 rfl rfl (RdH.own (k := 2) rfl) hx43) <| WD.two 11 14 (by kernel_rfl) ?_ ?_
       ·refine dy rfl (Yld.loadC0 (xs := x15) scal_26 rfl (RdH.own (k := 2) rfl) hx43 rfl) <| on 14 <| dy rfl (Yld.idxC (xs := x15) sty_63 rfl rfl (RdH.own (k := 2) rfl) hx44) <| on 15 <| dy rfl (Yld.loadC0 (xs := x15) scal_26 rfl (RdH.own (k := 2) rfl) hx44 rfl) <| on 16 <| dy rfl (Yld.idxC (xs := x15) sty_63 rfl rfl (RdH.own (k := 2) rfl) hx45) <| on 17 <| WS.eff0 rfl (Eff0.storeC1 2 (xs := x15) (a' := x43) siz_26 rfl rfl rfl rfl rfl rfl hx46) (sc (sc sn)) <| on 18 <| dy rfl (Yld.idxC (xs := x46) sty_63 rfl rfl (RdH.own (k := 2) rfl) hx47) <| on 19 <| WS.eff0 rfl (Eff0.storeC1 2 (xs := x46) (a' := x44) siz_26 rfl rfl rfl rfl rfl rfl hx48) (sc (sc sn)) <| dd <| k40 _ _ <| bn <| tn <| k27 _ _ <| rg fun _ k49 => ?_
        obtain ⟨x50, hx50, h⟩ := bnd h
        exact mv rfl <| ya (Yld.addC rfl rfl hx50) <| asn rfl <| dn <| k49 _ _ <| tn <| kw (k19 ⟨x48, ((x16 ^^^ (x16 <<< 13)) ^^^ ((x16 ^^^ (x16 <<< 13)) >>> 7)) ^^^ (((x16 ^^^ (x16 <<< 13)) ^^^ ((x16 ^^^ (x16 <<< 13)) >>> 7)) <<< 17), x50⟩ h)
       skip
       refine dy rfl (Yld.idxC (xs := x15) sty_63 rfl rfl (RdH.own (k := 2) rfl) hx44) <| WD.two 11 15 (by kernel_rfl) ?_ ?_
       ·refine dy rfl (Yld.loadC0 (xs := x15) scal_26 rfl (RdH.own (k := 2) rfl) hx43 rfl) <| on 15 <| dy rfl (Yld.loadC0 (xs := x15) scal_26 rfl (RdH.own (k := 2) rfl) hx44 rfl) <| on 16 <| dy rfl (Yld.idxC (xs := x15) sty_63 rfl rfl (RdH.own (k := 2) rfl) hx45) <| on 17 <| WS.eff0 rfl (Eff0.storeC1 2 (xs := x15) (a' := x43) siz_26 rfl rfl rfl rfl rfl rfl hx46) (sc (sc sn)) <| on 18 <| dy rfl (Yld.idxC (xs := x46) sty_63 rfl rfl (RdH.own (k := 2) rfl) hx47) <| on 19 <| WS.eff0 rfl (Eff0.storeC1 2 (xs := x46) (a' := x44) siz_26 rfl rfl rfl rfl rfl rfl hx48) (sc (sc sn)) <| dd <| k40 _ _ <| bn <| tn <| k27 _ _ <| rg fun _ k51 => ?_
        obtain ⟨x52, hx52, h⟩ := bnd h
        exact mv rfl <| ya (Yld.addC rfl rfl hx52) <| asn rfl <| dn <| k51 _ _ <| tn <| kw (k19 ⟨x48, ((x16 ^^^ (x16 <<< 13)) ^^^ ((x16 ^^^ (x16 <<< 13)) >>> 7)) ^^^ (((x16 ^^^ (x16 <<< 13)) ^^^ ((x16 ^^^ (x16 <<< 13)) >>> 7)) <<< 17), x52⟩ h)
       skip
       refine dy rfl (Yld.loadC0 (xs := x15) scal_26 rfl (RdH.own (k := 2) rfl) hx44 rfl) <| on 11 <| dy rfl (Yld.loadC0 (xs := x15) scal_26 rfl (RdH.own (k := 2) rfl) hx43 rfl) <| on 16 <| dy rfl (Yld.idxC (xs := x15) sty_63 rfl rfl (RdH.own (k := 2) rfl) hx45) <| on 17 <| WS.eff0 rfl (Eff0.storeC1 2 (xs := x15) (a' := x43) siz_26 rfl rfl rfl rfl rfl rfl hx46) (sc (sc sn)) <| on 18 <| dy rfl (Yld.idxC (xs := x46) sty_63 rfl rfl (RdH.own (k := 2) rfl) hx47) <| on 19 <| WS.eff0 rfl (Eff0.storeC1 2 (xs := x46) (a' := x44) siz_26 rfl rfl rfl rfl rfl rfl hx48) (sc (sc sn)) <| dd <| k40 _ _ <| bn <| tn <| k27 _ _ <| rg fun _ k53 => ?_
       obtain ⟨x54, hx54, h⟩ := bnd h
       exact mv rfl <| ya (Yld.addC rfl rfl hx54) <| asn rfl <| dn <| k53 _ _ <| tn <| kw (k19 ⟨x48, ((x16 ^^^ (x16 <<< 13)) ^^^ ((x16 ^^^ (x16 <<< 13)) >>> 7)) ^^^ (((x16 ^^^ (x16 <<< 13)) ^^^ ((x16 ^^^ (x16 <<< 13)) >>> 7)) <<< 17), x54⟩ h)
      skip
      refine dy rfl (Yld.idxC (xs := x15) sty_63 rfl rfl (RdH.own (k := 2) rfl) hx44) <| WD.two 10 15 (by kernel_rfl) ?_ ?_
      ·refine dy rfl (Yld.idxC (xs := x15) sty_63 rfl rfl (RdH.own (k := 2) rfl) hx43) <| WD.two 11 15 (by kernel_rfl) ?_ ?_
       ·refine dy rfl (Yld.loadC0 (xs := x15) scal_26 rfl (RdH.own (k := 2) rfl) hx43 rfl) <| on 15 <| dy rfl (Yld.loadC0 (xs := x15) scal_26 rfl (RdH.own (k := 2) rfl) hx44 rfl) <| on 16 <| dy rfl (Yld.idxC (xs := x15) sty_63 rfl rfl (RdH.own (k := 2) rfl) hx45) <| on 17 <| WS.eff0 rfl (Eff0.storeC1 2 (xs := x15) (a' := x43) siz_26 rfl rfl rfl rfl rfl rfl hx46) (sc (sc sn)) <| on 18 <| dy rfl (Yld.idxC (xs := x46) sty_63 rfl rfl (RdH.own (k := 2) rfl) hx47) <| on 19 <| WS.eff0 rfl (Eff0.storeC1 2 (xs := x46) (a' := x44) siz_26 rfl rfl rfl rfl rfl rfl hx48) (sc (sc sn)) <| dd <| k40 _ _ <| bn <| tn <| k27 _ _ <| rg fun _ k55 => ?_
        obtain ⟨x56, hx56, h⟩ := bnd h
        exact mv rfl <| ya (Yld.addC rfl rfl hx56) <| asn rfl <| dn <| k55 _ _ <| tn <| kw (k19 ⟨x48, ((x16 ^^^ (x16 <<< 13)) ^^^ ((x16 ^^^ (x16 <<< 13)) >>> 7)) ^^^ (((x16 ^^^ (x16 <<< 13)) ^^^ ((x16 ^^^ (x16 <<< 13)) >>> 7)) <<< 17), x56⟩ h)
       skip
       refine dy rfl (Yld.loadC0 (xs := x15) scal_26 rfl (RdH.own (k := 2) rfl) hx44 rfl) <| on 11 <| dy rfl (Yld.loadC0 (xs := x15) scal_26 rfl (RdH.own (k := 2) rfl) hx43 rfl) <| on 16 <| dy rfl (Yld.idxC (xs := x15) sty_63 rfl rfl (RdH.own (k := 2) rfl) hx45) <| on 17 <| WS.eff0 rfl (Eff0.storeC1 2 (xs := x15) (a' := x43) siz_26 rfl rfl rfl rfl rfl rfl hx46) (sc (sc sn)) <| on 18 <| dy rfl (Yld.idxC (xs := x46) sty_63 rfl rfl (RdH.own (k := 2) rfl) hx47) <| on 19 <| WS.eff0 rfl (Eff0.storeC1 2 (xs := x46) (a' := x44) siz_26 rfl rfl rfl rfl rfl rfl hx48) (sc (sc sn)) <| dd <| k40 _ _ <| bn <| tn <| k27 _ _ <| rg fun _ k57 => ?_
       obtain ⟨x58, hx58, h⟩ := bnd h
       exact mv rfl <| ya (Yld.addC rfl rfl hx58) <| asn rfl <| dn <| k57 _ _ <| tn <| kw (k19 ⟨x48, ((x16 ^^^ (x16 <<< 13)) ^^^ ((x16 ^^^ (x16 <<< 13)) >>> 7)) ^^^ (((x16 ^^^ (x16 <<< 13)) ^^^ ((x16 ^^^ (x16 <<< 13)) >>> 7)) <<< 17), x58⟩ h)
      skip
      refine dy rfl (Yld.loadC0 (xs := x15) scal_26 rfl (RdH.own (k := 2) rfl) hx44 rfl) <| on 10 <| dy rfl (Yld.idxC (xs := x15) sty_63 rfl rfl (RdH.own (k := 2) rfl) hx43) <| on 11 <| dy rfl (Yld.loadC0 (xs := x15) scal_26 rfl (RdH.own (k := 2) rfl) hx43 rfl) <| on 16 <| dy rfl (Yld.idxC (xs := x15) sty_63 rfl rfl (RdH.own (k := 2) rfl) hx45) <| on 17 <| WS.eff0 rfl (Eff0.storeC1 2 (xs := x15) (a' := x43) siz_26 rfl rfl rfl rfl rfl rfl hx46) (sc (sc sn)) <| on 18 <| dy rfl (Yld.idxC (xs := x46) sty_63 rfl rfl (RdH.own (k := 2) rfl) hx47) <| on 19 <| WS.eff0 rfl (Eff0.storeC1 2 (xs := x46) (a' := x44) siz_26 rfl rfl rfl rfl rfl rfl hx48) (sc (sc sn)) <| dd <| k40 _ _ <| bn <| tn <| k27 _ _ <| rg fun _ k59 => ?_
      obtain ⟨x60, hx60, h⟩ := bnd h
      exact mv rfl <| ya (Yld.addC rfl rfl hx60) <| asn rfl <| dn <| k59 _ _ <| tn <| kw (k19 ⟨x48, ((x16 ^^^ (x16 <<< 13)) ^^^ ((x16 ^^^ (x16 <<< 13)) >>> 7)) ^^^ (((x16 ^^^ (x16 <<< 13)) ^^^ ((x16 ^^^ (x16 <<< 13)) >>> 7)) <<< 17), x60⟩ h)
     refine ss <| k35 _ _ <| rd [(1, _), (106, _)] mixed fun _ k61 => ?_
     obtain ⟨x62, hx62, h⟩ := bnd h
     obtain ⟨x63, hx63, h⟩ := bnd h
     obtain ⟨x64, hx64, h⟩ := bnd h
     obtain ⟨x65, hx65, h⟩ := bnd h
     obtain ⟨x66, hx66, h⟩ := bnd h
     obtain ⟨x67, hx67, h⟩ := bnd h
     obtain ⟨x68, hx68, h⟩ := bnd h
     obtain ⟨x69, hx69, h⟩ := bnd h
     refine dm 0 rfl rfl <| dm 1 rfl rfl <| dm 2 rfl rfl <| dm 3 rfl rfl <| dm 4 rfl rfl <| du 5 rfl (Yld.addC rfl rfl hx62) <| dm 6 rfl rfl <| dm 7 rfl rfl <| dm 8 rfl rfl <| du 9 rfl (Yld.addC rfl rfl hx63) <| dm 12 rfl rfl <| dm 13 rfl rfl <| WD.two 10 14 (by kernel_rfl) ?_ ?_
     ·refine dy rfl (Yld.idxC (xs := x15) sty_63 rfl rfl (RdH.own (k := 2) rfl) hx64) <| WD.two 11 14 (by kernel_rfl) ?_ ?_
      ·refine dy rfl (Yld.loadC0 (xs := x15) scal_26 rfl (RdH.own (k := 2) rfl) hx64 rfl) <| on 14 <| dy rfl (Yld.idxC (xs := x15) sty_63 rfl rfl (RdH.own (k := 2) rfl) hx65) <| on 15 <| dy rfl (Yld.loadC0 (xs := x15) scal_26 rfl (RdH.own (k := 2) rfl) hx65 rfl) <| on 16 <| dy rfl (Yld.idxC (xs := x15) sty_63 rfl rfl (RdH.own (k := 2) rfl) hx66) <| on 17 <| WS.eff0 rfl (Eff0.storeC1 2 (xs := x15) (a' := x64) siz_26 rfl rfl rfl rfl rfl rfl hx67) (sc (sc sn)) <| on 18 <| dy rfl (Yld.idxC (xs := x67) sty_63 rfl rfl (RdH.own (k := 2) rfl) hx68) <| on 19 <| WS.eff0 rfl (Eff0.storeC1 2 (xs := x67) (a' := x65) siz_26 rfl rfl rfl rfl rfl rfl hx69) (sc (sc sn)) <| dd <| k61 _ _ <| bn <| tn <| k27 _ _ <| rg fun _ k70 => ?_
       obtain ⟨x71, hx71, h⟩ := bnd h
       exact mv rfl <| ya (Yld.addC rfl rfl hx71) <| asn rfl <| dn <| k70 _ _ <| tn <| kw (k19 ⟨x69, ((x16 ^^^ (x16 <<< 13)) ^^^ ((x16 ^^^ (x16 <<< 13)) >>> 7)) ^^^ (((x16 ^^^ (x16 <<< 13)) ^^^ ((x16 ^^^ (x16 <<< 13)) >>> 7)) <<< 17), x71⟩ h)
      skip
      refine dy rfl (Yld.idxC (xs := x15) sty_63 rfl rfl (RdH.own (k := 2) rfl) hx65) <| WD.two 11 15 (by kernel_rfl) ?_ ?_
      ·refine dy rfl (Yld.loadC0 (xs := x15) scal_26 rfl (RdH.own (k := 2) rfl) hx64 rfl) <| on 15 <| dy rfl (Yld.loadC0 (xs := x15) scal_26 rfl (RdH.own (k := 2) rfl) hx65 rfl) <| on 16 <| dy rfl (Yld.idxC (xs := x15) sty_63 rfl rfl (RdH.own (k := 2) rfl) hx66) <| on 17 <| WS.eff0 rfl (Eff0.storeC1 2 (xs := x15) (a' := x64) siz_26 rfl rfl rfl rfl rfl rfl hx67) (sc (sc sn)) <| on 18 <| dy rfl (Yld.idxC (xs := x67) sty_63 rfl rfl (RdH.own (k := 2) rfl) hx68) <| on 19 <| WS.eff0 rfl (Eff0.storeC1 2 (xs := x67) (a' := x65) siz_26 rfl rfl rfl rfl rfl rfl hx69) (sc (sc sn)) <| dd <| k61 _ _ <| bn <| tn <| k27 _ _ <| rg fun _ k72 => ?_
       obtain ⟨x73, hx73, h⟩ := bnd h
       exact mv rfl <| ya (Yld.addC rfl rfl hx73) <| asn rfl <| dn <| k72 _ _ <| tn <| kw (k19 ⟨x69, ((x16 ^^^ (x16 <<< 13)) ^^^ ((x16 ^^^ (x16 <<< 13)) >>> 7)) ^^^ (((x16 ^^^ (x16 <<< 13)) ^^^ ((x16 ^^^ (x16 <<< 13)) >>> 7)) <<< 17), x73⟩ h)
      skip
      refine dy rfl (Yld.loadC0 (xs := x15) scal_26 rfl (RdH.own (k := 2) rfl) hx65 rfl) <| on 11 <| dy rfl (Yld.loadC0 (xs := x15) scal_26 rfl (RdH.own (k := 2) rfl) hx64 rfl) <| on 16 <| dy rfl (Yld.idxC (xs := x15) sty_63 rfl rfl (RdH.own (k := 2) rfl) hx66) <| on 17 <| WS.eff0 rfl (Eff0.storeC1 2 (xs := x15) (a' := x64) siz_26 rfl rfl rfl rfl rfl rfl hx67) (sc (sc sn)) <| on 18 <| dy rfl (Yld.idxC (xs := x67) sty_63 rfl rfl (RdH.own (k := 2) rfl) hx68) <| on 19 <| WS.eff0 rfl (Eff0.storeC1 2 (xs := x67) (a' := x65) siz_26 rfl rfl rfl rfl rfl rfl hx69) (sc (sc sn)) <| dd <| k61 _ _ <| bn <| tn <| k27 _ _ <| rg fun _ k74 => ?_
      obtain ⟨x75, hx75, h⟩ := bnd h
      exact mv rfl <| ya (Yld.addC rfl rfl hx75) <| asn rfl <| dn <| k74 _ _ <| tn <| kw (k19 ⟨x69, ((x16 ^^^ (x16 <<< 13)) ^^^ ((x16 ^^^ (x16 <<< 13)) >>> 7)) ^^^ (((x16 ^^^ (x16 <<< 13)) ^^^ ((x16 ^^^ (x16 <<< 13)) >>> 7)) <<< 17), x75⟩ h)
     skip
     refine dy rfl (Yld.idxC (xs := x15) sty_63 rfl rfl (RdH.own (k := 2) rfl) hx65) <| WD.two 10 15 (by kernel_rfl) ?_ ?_
     ·refine dy rfl (Yld.idxC (xs := x15) sty_63 rfl rfl (RdH.own (k := 2) rfl) hx64) <| WD.two 11 15 (by kernel_rfl) ?_ ?_
      ·refine dy rfl (Yld.loadC0 (xs := x15) scal_26 rfl (RdH.own (k := 2) rfl) hx64 rfl) <| on 15 <| dy rfl (Yld.loadC0 (xs := x15) scal_26 rfl (RdH.own (k := 2) rfl) hx65 rfl) <| on 16 <| dy rfl (Yld.idxC (xs := x15) sty_63 rfl rfl (RdH.own (k := 2) rfl) hx66) <| on 17 <| WS.eff0 rfl (Eff0.storeC1 2 (xs := x15) (a' := x64) siz_26 rfl rfl rfl rfl rfl rfl hx67) (sc (sc sn)) <| on 18 <| dy rfl (Yld.idxC (xs := x67) sty_63 rfl rfl (RdH.own (k := 2) rfl) hx68) <| on 19 <| WS.eff0 rfl (Eff0.storeC1 2 (xs := x67) (a' := x65) siz_26 rfl rfl rfl rfl rfl rfl hx69) (sc (sc sn)) <| dd <| k61 _ _ <| bn <| tn <| k27 _ _ <| rg fun _ k76 => ?_
       obtain ⟨x77, hx77, h⟩ := bnd h
       exact mv rfl <| ya (Yld.addC rfl rfl hx77) <| asn rfl <| dn <| k76 _ _ <| tn <| kw (k19 ⟨x69, ((x16 ^^^ (x16 <<< 13)) ^^^ ((x16 ^^^ (x16 <<< 13)) >>> 7)) ^^^ (((x16 ^^^ (x16 <<< 13)) ^^^ ((x16 ^^^ (x16 <<< 13)) >>> 7)) <<< 17), x77⟩ h)
      skip
      refine dy rfl (Yld.loadC0 (xs := x15) scal_26 rfl (RdH.own (k := 2) rfl) hx65 rfl) <| on 11 <| dy rfl (Yld.loadC0 (xs := x15) scal_26 rfl (RdH.own (k := 2) rfl) hx64 rfl) <| on 16 <| dy rfl (Yld.idxC (xs := x15) sty_63 rfl rfl (RdH.own (k := 2) rfl) hx66) <| on 17 <| WS.eff0 rfl (Eff0.storeC1 2 (xs := x15) (a' := x64) siz_26 rfl rfl rfl rfl rfl rfl hx67) (sc (sc sn)) <| on 18 <| dy rfl (Yld.idxC (xs := x67) sty_63 rfl rfl (RdH.own (k := 2) rfl) hx68) <| on 19 <| WS.eff0 rfl (Eff0.storeC1 2 (xs := x67) (a' := x65) siz_26 rfl rfl rfl rfl rfl rfl hx69) (sc (sc sn)) <| dd <| k61 _ _ <| bn <| tn <| k27 _ _ <| rg fun _ k78 => ?_
      obtain ⟨x79, hx79, h⟩ := bnd h
      exact mv rfl <| ya (Yld.addC rfl rfl hx79) <| asn rfl <| dn <| k78 _ _ <| tn <| kw (k19 ⟨x69, ((x16 ^^^ (x16 <<< 13)) ^^^ ((x16 ^^^ (x16 <<< 13)) >>> 7)) ^^^ (((x16 ^^^ (x16 <<< 13)) ^^^ ((x16 ^^^ (x16 <<< 13)) >>> 7)) <<< 17), x79⟩ h)
     skip
     refine dy rfl (Yld.loadC0 (xs := x15) scal_26 rfl (RdH.own (k := 2) rfl) hx65 rfl) <| on 10 <| dy rfl (Yld.idxC (xs := x15) sty_63 rfl rfl (RdH.own (k := 2) rfl) hx64) <| on 11 <| dy rfl (Yld.loadC0 (xs := x15) scal_26 rfl (RdH.own (k := 2) rfl) hx64 rfl) <| on 16 <| dy rfl (Yld.idxC (xs := x15) sty_63 rfl rfl (RdH.own (k := 2) rfl) hx66) <| on 17 <| WS.eff0 rfl (Eff0.storeC1 2 (xs := x15) (a' := x64) siz_26 rfl rfl rfl rfl rfl rfl hx67) (sc (sc sn)) <| on 18 <| dy rfl (Yld.idxC (xs := x67) sty_63 rfl rfl (RdH.own (k := 2) rfl) hx68) <| on 19 <| WS.eff0 rfl (Eff0.storeC1 2 (xs := x67) (a' := x65) siz_26 rfl rfl rfl rfl rfl rfl hx69) (sc (sc sn)) <| dd <| k61 _ _ <| bn <| tn <| k27 _ _ <| rg fun _ k80 => ?_
     obtain ⟨x81, hx81, h⟩ := bnd h
     exact mv rfl <| ya (Yld.addC rfl rfl hx81) <| asn rfl <| dn <| k80 _ _ <| tn <| kw (k19 ⟨x69, ((x16 ^^^ (x16 <<< 13)) ^^^ ((x16 ^^^ (x16 <<< 13)) >>> 7)) ^^^ (((x16 ^^^ (x16 <<< 13)) ^^^ ((x16 ^^^ (x16 <<< 13)) >>> 7)) <<< 17), x81⟩ h)
    skip
    refine dy rfl (Yld.loadB (k := 106) scal_130 rfl rfl rfl) <| du 6 rfl (Yld.shlU_u64 (a := ((x16 ^^^ (x16 <<< 13)) ^^^ ((x16 ^^^ (x16 <<< 13)) >>> 7))) (m := 17) rfl rfl) <| on 2 <| dy rfl (Yld.loadB (k := 106) scal_130 rfl rfl rfl) <| du 7 rfl (Yld.xor_u64 (a := ((x16 ^^^ (x16 <<< 13)) ^^^ ((x16 ^^^ (x16 <<< 13)) >>> 7))) (b := (((x16 ^^^ (x16 <<< 13)) ^^^ ((x16 ^^^ (x16 <<< 13)) >>> 7)) <<< 17)) rfl rfl) <| du 8 rfl (Yld.nilCheckP rfl) <| on 9 <| WS.eff0 rfl (Eff0.storeB 106 siz_130 rfl rfl rfl rfl (Nat.le_of_ble_eq_true rfl)) (sc (sc sn)) <| dd <| k33 _ _ <| sr fun _ k82 => mv rfl <| ya (Yld.nilCheckP rfl) <| ya (Yld.loadB (k := 106) scal_130 rfl rfl rfl) <| asn rfl <| dn <| k82 _ _ <| re <| Ret.go (ResIs.one rfl rfl) <| mv rfl <| ya (Yld.sub_u64 (a := x8) (b := 1#64) rfl rfl) <| ya (Yld.and_u64 (a := (((x16 ^^^ (x16 <<< 13)) ^^^ ((x16 ^^^ (x16 <<< 13)) >>> 7)) ^^^ (((x16 ^^^ (x16 <<< 13)) ^^^ ((x16 ^^^ (x16 <<< 13)) >>> 7)) <<< 17))) (b := (x8 - 1#64)) rfl rfl) <| ya (Yld.conv_u64_i64 (a := ((((x16 ^^^ (x16 <<< 13)) ^^^ ((x16 ^^^ (x16 <<< 13)) >>> 7)) ^^^ (((x16 ^^^ (x16 <<< 13)) ^^^ ((x16 ^^^ (x16 <<< 13)) >>> 7)) <<< 17)) &&& (x8 - 1#64))) some_75 und_3 rfl) <| asn rfl <| dn <| k28 _ _ <| sq fun _ k83 => sr fun _ k84 => mv rfl <| mv rfl <| ya (Yld.geq rfl rfl) <| dn <| k84 _ _ <| cnd h rfl decide_eq_true decide_eq_false (fun hc85 h => ?_) fun hc85 h => ?_
    ·refine rg fun _ k86 => ?_
     obtain ⟨x87, hx87, h⟩ := bnd h
     refine mv rfl <| mv rfl <| ya (Yld.subC rfl rfl hx87) <| asn rfl <| dn <| k86 _ _ <| tn <| k83 _ _ <| rd [(1, _), (106, _)] mixed fun _ k88 => ?_
     obtain ⟨x89, hx89, h⟩ := bnd h
     obtain ⟨x90, hx90, h⟩ := bnd h
     obtain ⟨x91, hx91, h⟩ := bnd h
     obtain ⟨x92, hx92, h⟩ := bnd h
     obtain ⟨x93, hx93, h⟩ := bnd h
     obtain ⟨x94, hx94, h⟩ := bnd h
     obtain ⟨x95, hx95, h⟩ := bnd h
     obtain ⟨x96, hx96, h⟩ := bnd h
     refine dm 0 rfl rfl <| dm 1 rfl rfl <| dm 2 rfl rfl <| dm 3 rfl rfl <| dm 4 rfl rfl <| du 5 rfl (Yld.addC rfl rfl hx89) <| dm 6 rfl rfl <| dm 7 rfl rfl <| dm 8 rfl rfl <| du 9 rfl (Yld.addC rfl rfl hx90) <| dm 12 rfl rfl <| dm 13 rfl rfl <| WD.two 10 14 (by kernel_rfl) ?_ ?_
     ·refine dy rfl (Yld.idxC (xs := x15) sty_63 rfl rfl (RdH.own (k := 2) rfl) hx91) <| WD.two 11 14 (by kernel_rfl) ?_ ?_
      ·refine dy rfl (Yld.loadC0 (xs := x15) scal_26 rfl (RdH.own (k := 2) rfl) hx91 rfl) <| on 14 <| dy rfl (Yld.idxC (xs := x15) sty_63 rfl rfl (RdH.own (k := 2) rfl) hx92) <| on 15 <| dy rfl (Yld.loadC0 (xs := x15) scal_26 rfl (RdH.own (k := 2) rfl) hx92 rfl) <| on 16 <| dy rfl (Yld.idxC (xs := x15) sty_63 rfl rfl (RdH.own (k := 2) rfl) hx93) <| on 17 <| WS.eff0 rfl (Eff0.storeC1 2 (xs := x15) (a' := x91) siz_26 rfl rfl rfl rfl rfl rfl hx94) (sc (sc sn)) <| on 18 <| dy rfl (Yld.idxC (xs := x94) sty_63 rfl rfl (RdH.own (k := 2) rfl) hx95) <| on 19 <| WS.eff0 rfl (Eff0.storeC1 2 (xs := x94) (a' := x92) siz_26 rfl rfl rfl rfl rfl rfl hx96) (sc (sc sn)) <| dd <| k88 _ _ <| bn <| tn <| k27 _ _ <| rg fun _ k97 => ?_
       obtain ⟨x98, hx98, h⟩ := bnd h
       exact mv rfl <| ya (Yld.addC rfl rfl hx98) <| asn rfl <| dn <| k97 _ _ <| tn <| kw (k19 ⟨x96, ((x16 ^^^ (x16 <<< 13)) ^^^ ((x16 ^^^ (x16 <<< 13)) >>> 7)) ^^^ (((x16 ^^^ (x16 <<< 13)) ^^^ ((x16 ^^^ (x16 <<< 13)) >>> 7)) <<< 17), x98⟩ h)
      skip
      refine dy rfl (Yld.idxC (xs := x15) sty_63 rfl rfl (RdH.own (k := 2) rfl) hx92) <| WD.two 11 15 (by kernel_rfl) ?_ ?_
      ·refine dy rfl (Yld.loadC0 (xs := x15) scal_26 rfl (RdH.own (k := 2) rfl) hx91 rfl) <| on 15 <| dy rfl (Yld.loadC0 (xs := x15) scal_26 rfl (RdH.own (k := 2) rfl) hx92 rfl) <| on 16 <| dy rfl (Yld.idxC (xs := x15) sty_63 rfl rfl (RdH.own (k := 2) rfl) hx93) <| on 17 <| WS.eff0 rfl (Eff0.storeC1 2 (xs := x15) (a' := x91) siz_26 rfl rfl rfl rfl rfl rfl hx94) (sc (sc sn)) <| on 18 <| dy rfl (Yld.idxC (xs := x94) sty_63 rfl rfl (RdH.own (k := 2) rfl) hx95) <| on 19 <| WS.eff0 rfl (Eff0.storeC1 2 (xs := x94) (a' := x92) siz_26 rfl rfl rfl rfl rfl rfl hx96) (sc (sc sn)) <| dd <| k88 _ _ <| bn <| tn <| k27 _ _ <| rg fun _ k99 => ?_
       obtain ⟨x100, hx100, h⟩ := bnd h
       exact mv rfl <| ya (Yld.addC rfl rfl hx100) <| asn rfl <| dn <| k99 _ _ <| tn <| kw (k19 ⟨x96, ((x16 ^^^ (x16 <<< 13)) ^^^ ((x16 ^^^ (x16 <<< 13)) >>> 7)) ^^^ (((x16 ^^^ (x16 <<< 13)) ^^^ ((x16 ^^^ (x16 <<< 13)) >>> 7)) <<< 17), x100⟩ h)
      skip
      refine dy rfl (Yld.loadC0 (xs := x15) scal_26 rfl (RdH.own (k := 2) rfl) hx92 rfl) <| on 11 <| dy rfl (Yld.loadC0 (xs := x15) scal_26 rfl (RdH.own (k := 2) rfl) hx91 rfl) <| on 16 <| dy rfl (Yld.idxC (xs := x15) sty_63 rfl rfl (RdH.own (k := 2) rfl) hx93) <| on 17 <| WS.eff0 rfl (Eff0.storeC1 2 (xs := x15) (a' := x91) siz_26 rfl rfl rfl rfl rfl rfl hx94) (sc (sc sn)) <| on 18 <| dy rfl (Yld.idxC (xs := x94) sty_63 rfl rfl (RdH.own (k := 2) rfl) hx95) <| on 19 <| WS.eff0 rfl (Eff0.storeC1 2 (xs := x94) (a' := x92) siz_26 rfl rfl rfl rfl rfl rfl hx96) (sc (sc sn)) <| dd <| k88 _ _ <| bn <| tn <| k27 _ _ <| rg fun _ k101 => ?_
      obtain ⟨x102, hx102, h⟩ := bnd h
      exact mv rfl <| ya (Yld.addC rfl rfl hx102) <| asn rfl <| dn <| k101 _ _ <| tn <| kw (k19 ⟨x96, ((x16 ^^^ (x16 <<< 13)) ^^^ ((x16 ^^^ (x16 <<< 13)) >>> 7)) ^^^ (((x16 ^^^ (x16 <<< 13)) ^^^ ((x16 ^^^ (x16 <<< 13)) >>> 7)) <<< 17), x102⟩ h)
     skip
     refine dy rfl (Yld.idxC (xs := x15) sty_63 rfl rfl (RdH.own (k := 2) rfl) hx92) <| WD.two 10 15 (by kernel_rfl) ?_ ?_
     ·refine dy rfl (Yld.idxC (xs := x15) sty_63 rfl rfl (RdH.own (k := 2) rfl) hx91) <| WD.two 11 15 (by kernel_rfl) ?_ ?_
      ·refine dy rfl (Yld.loadC0 (xs := x15) scal_26 rfl (RdH.own (k := 2) rfl) hx91 rfl) <| on 15 <| dy rfl (Yld.loadC0 (xs := x15) scal_26 rfl (RdH.own (k := 2) rfl) hx92 rfl) <| on 16 <| dy rfl (Yld.idxC (xs := x15) sty_63 rfl rfl (RdH.own (k := 2) rfl) hx93) <| on 17 <| WS.eff0 rfl (Eff0.storeC1 2 (xs := x15) (a' := x91) siz_26 rfl rfl rfl rfl rfl rfl hx94) (sc (sc sn)) <| on 18 <| dy rfl (Yld.idxC (xs := x94) sty_63 rfl rfl (RdH.own (k := 2) rfl) hx95) <| on 19 <| WS.eff0 rfl (Eff0.storeC1 2 (xs := x94) (a' := x92) siz_26 rfl rfl rfl rfl rfl rfl hx96) (sc (sc sn)) <| dd <| k88 _ _ <| bn <| tn <| k27 _ _ <| rg fun _ k103 => ?_
       obtain ⟨x104, hx104, h⟩ := bnd h
       exact mv rfl <| ya (Yld.addC rfl rfl hx104) <| asn rfl <| dn <| k103 _ _ <| tn <| kw (k19 ⟨x96, ((x16 ^^^ (x16 <<< 13)) ^^^ ((x16 ^^^ (x16 <<< 13)) >>> 7)) ^^^ (((x16 ^^^ (x16 <<< 13)) ^^^ ((x16 ^^^ (x16 <<< 13)) >>> 7)) <<< 17), x104⟩ h)
      skip
      refine dy rfl (Yld.loadC0 (xs := x15) scal_26 rfl (RdH.own (k := 2) rfl) hx92 rfl) <| on 11 <| dy rfl (Yld.loadC0 (xs := x15) scal_26 rfl (RdH.own (k := 2) rfl) hx91 rfl) <| on 16 <| dy rfl (Yld.idxC (xs := x15) sty_63 rfl rfl (RdH.own (k := 2) rfl) hx93) <| on 17 <| WS.eff0 rfl (Eff0.storeC1 2 (xs := x15) (a' := x91) siz_26 rfl rfl rfl rfl rfl rfl hx94) (sc (sc sn)) <| on 18 <| dy rfl (Yld.idxC (xs := x94) sty_63 rfl rfl (RdH.own (k := 2) rfl) hx95) <| on 19 <| WS.eff0 rfl (Eff0.storeC1 2 (xs := x94) (a' := x92) siz_26 rfl rfl rfl rfl rfl rfl hx96) (sc (sc sn)) <| dd <| k88 _ _ <| bn <| tn <| k27 _ _ <| rg fun _ k105 => ?_
      obtain ⟨x106, hx106, h⟩ := bnd h
      exact mv rfl <| ya (Yld.addC rfl rfl hx106) <| asn rfl <| dn <| k105 _ _ <| tn <| kw (k19 ⟨x96, ((x16 ^^^ (x16 <<< 13)) ^^^ ((x16 ^^^ (x16 <<< 13)) >>> 7)) ^^^ (((x16 ^^^ (x16 <<< 13)) ^^^ ((x16 ^^^ (x16 <<< 13)) >>> 7)) <<< 17), x106⟩ h)
     skip
     refine dy rfl (Yld.loadC0 (xs := x15) scal_26 rfl (RdH.own (k := 2) rfl) hx92 rfl) <| on 10 <| dy rfl (Yld.idxC (xs := x15) sty_63 rfl rfl (RdH.own (k := 2) rfl) hx91) <| on 11 <| dy rfl (Yld.loadC0 (xs := x15) scal_26 rfl (RdH.own (k := 2) rfl) hx91 rfl) <| on 16 <| dy rfl (Yld.idxC (xs := x15) sty_63 rfl rfl (RdH.own (k := 2) rfl) hx93) <| on 17 <| WS.eff0 rfl (Eff0.storeC1 2 (xs := x15) (a' := x91) siz_26 rfl rfl rfl rfl rfl rfl hx94) (sc (sc sn)) <| on 18 <| dy rfl (Yld.idxC (xs := x94) sty_63 rfl rfl (RdH.own (k := 2) rfl) hx95) <| on 19 <| WS.eff0 rfl (Eff0.storeC1 2 (xs := x94) (a' := x92) siz_26 rfl rfl rfl rfl rfl rfl hx96) (sc (sc sn)) <| dd <| k88 _ _ <| bn <| tn <| k27 _ _ <| rg fun _ k107 => ?_
     obtain ⟨x108, hx108, h⟩ := bnd h
     exact mv rfl <| ya (Yld.addC rfl rfl hx108) <| asn rfl <| dn <| k107 _ _ <| tn <| kw (k19 ⟨x96, ((x16 ^^^ (x16 <<< 13)) ^^^ ((x16 ^^^ (x16 <<< 13)) >>> 7)) ^^^ (((x16 ^^^ (x16 <<< 13)) ^^^ ((x16 ^^^ (x16 <<< 13)) >>> 7)) <<< 17), x108⟩ h)
    refine ss <| k83 _ _ <| rd [(1, _), (106, _)] mixed fun _ k109 => ?_
    obtain ⟨x110, hx110, h⟩ := bnd h
    obtain ⟨x111, hx111, h⟩ := bnd h
    obtain ⟨x112, hx112, h⟩ := bnd h
    obtain ⟨x113, hx113, h⟩ := bnd h
    obtain ⟨x114, hx114, h⟩ := bnd h
    obtain ⟨x115, hx115, h⟩ := bnd h
    obtain ⟨x116, hx116, h⟩ := bnd h
    obtain ⟨x117, hx117, h⟩ := bnd h
    refine dm 0 rfl rfl <| dm 1 rfl rfl <| dm 2 rfl rfl <| dm 3 rfl rfl <| dm 4 rfl rfl <| du 5 rfl (Yld.addC rfl rfl hx110) <| dm 6 rfl rfl <| dm 7 rfl rfl <| dm 8 rfl rfl <| du 9 rfl (Yld.addC rfl rfl hx111) <| dm 12 rfl rfl <| dm 13 rfl rfl <| WD.two 10 14 (by kernel_rfl) ?_ ?_
    ·refine dy rfl (Yld.idxC (xs := x15) sty_63 rfl rfl (RdH.own (k := 2) rfl) hx112) <| WD.two 11 14 (by kernel_rfl) ?_ ?_
     ·refine dy rfl (Yld.loadC0 (xs := x15) scal_26 rfl (RdH.own (k := 2) rfl) hx112 rfl) <| on 14 <| dy rfl (Yld.idxC (xs := x15) sty_63 rfl rfl (RdH.own (k := 2) rfl) hx113) <| on 15 <| dy rfl (Yld.loadC0 (xs := x15) scal_26 rfl (RdH.own (k := 2) rfl) hx113 rfl) <| on 16 <| dy rfl (Yld.idxC (xs := x15) sty_63 rfl rfl (RdH.own (k := 2) rfl) hx114) <| on 17 <| WS.eff0 rfl (Eff0.storeC1 2 (xs := x15) (a' := x112) siz_26 rfl rfl rfl rfl rfl rfl hx115) (sc (sc sn)) <| on 18 <| dy rfl (Yld.idxC (xs := x115) sty_63 rfl rfl (RdH.own (k := 2) rfl) hx116) <| on 19 <| WS.eff0 rfl (Eff0.storeC1 2 (xs := x115) (a' := x113) siz_26 rfl rfl rfl rfl rfl rfl hx117) (sc (sc sn)) <| dd <| k109 _ _ <| bn <| tn <| k27 _ _ <| rg fun _ k118 => ?_
      obtain ⟨x119, hx119, h⟩ := bnd h
      exact mv rfl <| ya (Yld.addC rfl rfl hx119) <| asn rfl <| dn <| k118 _ _ <| tn <| kw (k19 ⟨x117, ((x16 ^^^ (x16 <<< 13)) ^^^ ((x16 ^^^ (x16 <<< 13)) >>> 7)) ^^^ (((x16 ^^^ (x16 <<< 13)) ^^^ ((x16 ^^^ (x16 <<< 13)) >>> 7)) <<< 17), x119⟩ h)
     skip
     refine dy rfl (Yld.idxC (xs := x15) sty_63 rfl rfl (RdH.own (k := 2) rfl) hx113) <| WD.two 11 15 (by kernel_rfl) ?_ ?_
     ·refine dy rfl (Yld.loadC0 (xs := x15) scal_26 rfl (RdH.own (k := 2) rfl) hx112 rfl) <| on 15 <| dy rfl (Yld.loadC0 (xs := x15) scal_26 rfl (RdH.own (k := 2) rfl) hx113 rfl) <| on 16 <| dy rfl (Yld.idxC (xs := x15) sty_63 rfl rfl (RdH.own (k := 2) rfl) hx114) <| on 17 <| WS.eff0 rfl (Eff0.storeC1 2 (xs := x15) (a' := x112) siz_26 rfl rfl rfl rfl rfl rfl hx115) (sc (sc sn)) <| on 18 <| dy rfl (Yld.idxC (xs := x115) sty_63 rfl rfl (RdH.own (k := 2) rfl) hx116) <| on 19 <| WS.eff0 rfl (Eff0.storeC1 2 (xs := x115) (a' := x113) siz_26 rfl rfl rfl rfl rfl rfl hx117) (sc (sc sn)) <| dd <| k109 _ _ <| bn <| tn <| k27 _ _ <| rg fun _ k120 => ?_
      obtain ⟨x121, hx121, h⟩ := bnd h
      exact mv rfl <| ya (Yld.addC rfl rfl hx121) <| asn rfl <| dn <| k120 _ _ <| tn <| kw (k19 ⟨x117, ((x16 ^^^ (x16 <<< 13)) ^^^ ((x16 ^^^ (x16 <<< 13)) >>> 7)) ^^^ (((x16 ^^^ (x16 <<< 13)) ^^^ ((x16 ^^^ (x16 <<< 13)) >>> 7)) <<< 17), x121⟩ h)
     skip
     refine dy rfl (Yld.loadC0 (xs := x15) scal_26 rfl (RdH.own (k := 2) rfl) hx113 rfl) <| on 11 <| dy rfl (Yld.loadC0 (xs := x15) scal_26 rfl (RdH.own (k := 2) rfl) hx112 rfl) <| on 16 <| dy rfl (Yld.idxC (xs := x15) sty_63 rfl rfl (RdH.own (k := 2) rfl) hx114) <| on 17 <| WS.eff0 rfl (Eff0.storeC1 2 (xs := x15) (a' := x112) siz_26 rfl rfl rfl rfl rfl rfl hx115) (sc (sc sn)) <| on 18 <| dy rfl (Yld.idxC (xs := x115) sty_63 rfl rfl (RdH.own (k := 2) rfl) hx116) <| on 19 <| WS.eff0 rfl (Eff0.storeC1 2 (xs := x115) (a' := x113) siz_26 rfl rfl rfl rfl rfl rfl hx117) (sc (sc sn)) <| dd <| k109 _ _ <| bn <| tn <| k27 _ _ <| rg fun _ k122 => ?_
     obtain ⟨x123, hx123, h⟩ := bnd h
     exact mv rfl <| ya (Yld.addC rfl rfl hx123) <| asn rfl <| dn <| k122 _ _ <| tn <| kw (k19 ⟨x117, ((x16 ^^^ (x16 <<< 13)) ^^^ ((x16 ^^^ (x16 <<< 13)) >>> 7)) ^^^ (((x16 ^^^ (x16 <<< 13)) ^^^ ((x16 ^^^ (x16 <<< 13)) >>> 7)) <<< 17), x123⟩ h)
    skip
    refine dy rfl (Yld.idxC (xs := x15) sty_63 rfl rfl (RdH.own (k := 2) rfl) hx113) <| WD.two 10 15 (by kernel_rfl) ?_ ?_
    ·refine dy rfl (Yld.idxC (xs := x15) sty_63 rfl rfl (RdH.own (k := 2) rfl) hx112) <| WD.two 11 15 (by kernel_rfl) ?_ ?_
     ·refine dy rfl (Yld.loadC0 (xs := x15) scal_26 rfl (RdH.own (k := 2) rfl) hx112 rfl) <| on 15 <| dy rfl (Yld.loadC0 (xs := x15) scal_26 rfl (RdH.own (k := 2) rfl) hx113 rfl) <| on 16 <| dy rfl (Yld.idxC (xs := x15) sty_63 rfl rfl (RdH.own (k := 2) rfl) hx114) <| on 17 <| WS.eff0 rfl (Eff0.storeC1 2 (xs := x15) (a' := x112) siz_26 rfl rfl rfl rfl rfl rfl hx115) (sc (sc sn)) <| on 18 <| dy rfl (Yld.idxC (xs := x115) sty_63 rfl rfl (RdH.own (k := 2) rfl) hx116) <| on 19 <| WS.eff0 rfl (Eff0.storeC1 2 (xs := x115) (a' := x113) siz_26 rfl rfl rfl rfl rfl rfl hx117) (sc (sc sn)) <| dd <| k109 _ _ <| bn <| tn <| k27 _ _ <| rg fun _ k124 => ?_
      obtain ⟨x125, hx125, h⟩ := bnd h
      exact mv rfl <| ya (Yld.addC rfl rfl hx125) <| asn rfl <| dn <| k124 _ _ <| tn <| kw (k19 ⟨x117, ((x16 ^^^ (x16 <<< 13)) ^^^ ((x16 ^^^ (x16 <<< 13)) >>> 7)) ^^^ (((x16 ^^^ (x16 <<< 13)) ^^^ ((x16 ^^^ (x16 <<< 13)) >>> 7)) <<< 17), x125⟩ h)
     skip
     refine dy rfl (Yld.loadC0 (xs := x15) scal_26 rfl (RdH.own (k := 2) rfl) hx113 rfl) <| on 11 <| dy rfl (Yld.loadC0 (xs := x15) scal_26 rfl (RdH.own (k := 2) rfl) hx112 rfl) <| on 16 <| dy rfl (Yld.idxC (xs := x15) sty_63 rfl rfl (RdH.own (k := 2) rfl) hx114) <| on 17 <| WS.eff0 rfl (Eff0.storeC1 2 (xs := x15) (a' := x112) siz_26 rfl rfl rfl rfl rfl rfl hx115) (sc (sc sn)) <| on 18 <| dy rfl (Yld.idxC (xs := x115) sty_63 rfl rfl (RdH.own (k := 2) rfl) hx116) <| on 19 <| WS.eff0 rfl (Eff0.storeC1 2 (xs := x115) (a' := x113) siz_26 rfl rfl rfl rfl rfl rfl hx117) (sc (sc sn)) <| dd <| k109 _ _ <| bn <| tn <| k27 _ _ <| rg fun _ k126 => ?_
     obtain ⟨x127, hx127, h⟩ := bnd h
     exact mv rfl <| ya (Yld.addC rfl rfl hx127) <| asn rfl <| dn <| k126 _ _ <| tn <| kw (k19 ⟨x117, ((x16 ^^^ (x16 <<< 13)) ^^^ ((x16 ^^^ (x16 <<< 13)) >>> 7)) ^^^ (((x16 ^^^ (x16 <<< 13)) ^^^ ((x16 ^^^ (x16 <<< 13)) >>> 7)) <<< 17), x127⟩ h)
    skip
    refine dy rfl (Yld.loadC0 (xs := x15) scal_26 rfl (RdH.own (k := 2) rfl) hx113 rfl) <| on 10 <| dy rfl (Yld.idxC (xs := x15) sty_63 rfl rfl (RdH.own (k := 2) rfl) hx112) <| on 11 <| dy rfl (Yld.loadC0 (xs := x15) scal_26 rfl (RdH.own (k := 2) rfl) hx112 rfl) <| on 16 <| dy rfl (Yld.idxC (xs := x15) sty_63 rfl rfl (RdH.own (k := 2) rfl) hx114) <| on 17 <| WS.eff0 rfl (Eff0.storeC1 2 (xs := x15) (a' := x112) siz_26 rfl rfl rfl rfl rfl rfl hx115) (sc (sc sn)) <| on 18 <| dy rfl (Yld.idxC (xs := x115) sty_63 rfl rfl (RdH.own (k := 2) rfl) hx116) <| on 19 <| WS.eff0 rfl (Eff0.storeC1 2 (xs := x115) (a' := x113) siz_26 rfl rfl rfl rfl rfl rfl hx117) (sc (sc sn)) <| dd <| k109 _ _ <| bn <| tn <| k27 _ _ <| rg fun _ k128 => ?_
    obtain ⟨x129, hx129, h⟩ := bnd h
    exact mv rfl <| ya (Yld.addC rfl rfl hx129) <| asn rfl <| dn <| k128 _ _ <| tn <| kw (k19 ⟨x117, ((x16 ^^^ (x16 <<< 13)) ^^^ ((x16 ^^^ (x16 <<< 13)) >>> 7)) ^^^ (((x16 ^^^ (x16 <<< 13)) ^^^ ((x16 ^^^ (x16 <<< 13)) >>> 7)) <<< 17), x129⟩ h)
   skip
   refine dy rfl (Yld.loadB (k := 106) scal_130 rfl rfl rfl) <| du 6 rfl (Yld.shrU_u64 (a := (x16 ^^^ (x16 <<< 13))) (m := 7) rfl rfl) <| on 2 <| dy rfl (Yld.loadB (k := 106) scal_130 rfl rfl rfl) <| du 7 rfl (Yld.xor_u64 (a := (x16 ^^^ (x16 <<< 13))) (b := ((x16 ^^^ (x16 <<< 13)) >>> 7)) rfl rfl) <| du 8 rfl (Yld.nilCheckP rfl) <| on 9 <| WS.eff0 rfl (Eff0.storeB 106 siz_130 rfl rfl rfl rfl (Nat.le_of_ble_eq_true rfl)) (sc (sc sn)) <| dd <| k32 _ _ <| sd [(1, _), (2, _)] mixed fun _ k130 => ?_
   refine dm 0 rfl rfl <| du 1 rfl (Yld.nilCheckP rfl) <| dm 3 rfl rfl <| du 4 rfl (Yld.nilCheckP rfl) <| WD.two 2 5 (by kernel_rfl) ?_ ?_
   ·refine dy rfl (Yld.loadB (k := 106) scal_130 rfl rfl rfl) <| on 5 <| dy rfl (Yld.loadB (k := 106) scal_130 rfl rfl rfl) <| du 6 rfl (Yld.shlU_u64 (a := ((x16 ^^^ (x16 <<< 13)) ^^^ ((x16 ^^^ (x16 <<< 13)) >>> 7))) (m := 17) rfl rfl) <| du 7 rfl (Yld.xor_u64 (a := ((x16 ^^^ (x16 <<< 13)) ^^^ ((x16 ^^^ (x16 <<< 13)) >>> 7))) (b := (((x16 ^^^ (x16 <<< 13)) ^^^ ((x16 ^^^ (x16 <<< 13)) >>> 7)) <<< 17)) rfl rfl) <| du 8 rfl (Yld.nilCheckP rfl) <| on 9 <| WS.eff0 rfl (Eff0.storeB 106 siz_130 rfl rfl rfl rfl (Nat.le_of_ble_eq_true rfl)) (sc (sc sn)) <| dd <| k130 _ _ <| sr fun _ k131 => mv rfl <| ya (Yld.nilCheckP rfl) <| ya (Yld.loadB (k := 106) scal_130 rfl rfl rfl) <| asn rfl <| dn <| k131 _ _ <| re <| Ret.go (ResIs.one rfl rfl) <| mv rfl <| ya (Yld.sub_u64 (a := x8) (b := 1#64) rfl rfl) <| ya (Yld.and_u64 (a := (((x16 ^^^ (x16 <<< 13)) ^^^ ((x16 ^^^ (x16 <<< 13)) >>> 7)) ^^^ (((x16 ^^^ (x16 <<< 13)) ^^^ ((x16 ^^^ (x16 <<< 13)) >>> 7)) <<< 17))) (b := (x8 - 1#64)) rfl rfl) <| ya (Yld.conv_u64_i64 (a := ((((x16 ^^^ (x16 <<< 13)) ^^^ ((x16 ^^^ (x16 <<< 13)) >>> 7)) ^^^ (((x16 ^^^ (x16 <<< 13)) ^^^ ((x16 ^^^ (x16 <<< 13)) >>> 7)) <<< 17)) &&& (x8 - 1#64))) some_75 und_3 rfl) <| asn rfl <| dn <| k28 _ _ <| sq fun _ k132 => sr fun _ k133 => mv rfl <| mv rfl <| ya (Yld.geq rfl rfl) <| dn <| k133 _ _ <| cnd h rfl decide_eq_true decide_eq_false (fun hc134 h => ?_) fun hc134 h => ?_
    ·refine rg fun _ k135 => ?_
     obtain ⟨x136, hx136, h⟩ := bnd h
     refine mv rfl <| mv rfl <| ya (Yld.subC rfl rfl hx136) <| asn rfl <| dn <| k135 _ _ <| tn <| k132 _ _ <| rd [(1, _), (106, _)] mixed fun _ k137 => ?_
     obtain ⟨x138, hx138, h⟩ := bnd h
     obtain ⟨x139, hx139, h⟩ := bnd h
     obtain ⟨x140, hx140, h⟩ := bnd h
     obtain ⟨x141, hx141, h⟩ := bnd h
     obtain ⟨x142, hx142, h⟩ := bnd h
     obtain ⟨x143, hx143, h⟩ := bnd h
     obtain ⟨x144, hx144, h⟩ := bnd h
     obtain ⟨x145, hx145, h⟩ := bnd h
     refine dm 0 rfl rfl <| dm 1 rfl rfl <| dm 2 rfl rfl <| dm 3 rfl rfl <| dm 4 rfl rfl <| du 5 rfl (Yld.addC rfl rfl hx138) <| dm 6 rfl rfl <| dm 7 rfl rfl <| dm 8 rfl rfl <| du 9 rfl (Yld.addC rfl rfl hx139) <| dm 12 rfl rfl <| dm 13 rfl rfl <| WD.two 10 14 (by kernel_rfl) ?_ ?_
     ·refine dy rfl (Yld.idxC (xs := x15) sty_63 rfl rfl (RdH.own (k := 2) rfl) hx140) <| WD.two 11 14 (by kernel_rfl) ?_ ?_
      ·refine dy rfl (Yld.loadC0 (xs := x15) scal_26 rfl (RdH.own (k := 2) rfl) hx140 rfl) <| on 14 <| dy rfl (Yld.idxC (xs := x15) sty_63 rfl rfl (RdH.own (k := 2) rfl) hx141) <| on 15 <| dy rfl (Yld.loadC0 (xs := x15) scal_26 rfl (RdH.own (k := 2) rfl) hx141 rfl) <| on 16 <| dy rfl (Yld.idxC (xs := x15) sty_63 rfl rfl (RdH.own (k := 2) rfl) hx142) <| on 17 <| WS.eff0 rfl (Eff0.storeC1 2 (xs := x15) (a' := x140) siz_26 rfl rfl rfl rfl rfl rfl hx143) (sc (sc sn)) <| on 18 <| dy rfl (Yld.idxC (xs := x143) sty_63 rfl rfl (RdH.own (k := 2) rfl) hx144) <| on 19 <| WS.eff0 rfl (Eff0.storeC1 2 (xs := x143) (a' := x141) siz_26 rfl rfl rfl rfl rfl rfl hx145) (sc (sc sn)) <| dd <| k137 _ _ <| bn <| tn <| k27 _ _ <| rg fun _ k146 => ?_
       obtain ⟨x147, hx147, h⟩ := bnd h
       exact mv rfl <| ya (Yld.addC rfl rfl hx147) <| asn rfl <| dn <| k146 _ _ <| tn <| kw (k19 ⟨x145, ((x16 ^^^ (x16 <<< 13)) ^^^ ((x16 ^^^ (x16 <<< 13)) >>> 7)) ^^^ (((x16 ^^^ (x16 <<< 13)) ^^^ ((x16 ^^^ (x16 <<< 13)) >>> 7)) <<< 17), x147⟩ h)
      skip
      refine dy rfl (Yld.idxC (xs := x15) sty_63 rfl rfl (RdH.own (k := 2) rfl) hx141) <| WD.two 11 15 (by kernel_rfl) ?_ ?_
      ·refine dy rfl (Yld.loadC0 (xs := x15) scal_26 rfl (RdH.own (k := 2) rfl) hx140 rfl) <| on 15 <| dy rfl (Yld.loadC0 (xs := x15) scal_26 rfl (RdH.own (k := 2) rfl) hx141 rfl) <| on 16 <| dy rfl (Yld.idxC (xs := x15) sty_63 rfl rfl (RdH.own (k := 2) rfl) hx142) <| on 17 <| WS.eff0 rfl (Eff0.storeC1 2 (xs := x15) (a' := x140) siz_26 rfl rfl rfl rfl rfl rfl hx143) (sc (sc sn)) <| on 18 <| dy rfl (Yld.idxC (xs := x143) sty_63 rfl rfl (RdH.own (k := 2) rfl) hx144) <| on 19 <| WS.eff0 rfl (Eff0.storeC1 2 (xs := x143) (a' := x141) siz_26 rfl rfl rfl rfl rfl rfl hx145) (sc (sc sn)) <| dd <| k137 _ _ <| bn <| tn <| k27 _ _ <| rg fun _ k148 => ?_
       obtain ⟨x149, hx149, h⟩ := bnd h
       exact mv rfl <| ya (Yld.addC rfl rfl hx149) <| asn rfl <| dn <| k148 _ _ <| tn <| kw (k19 ⟨x145, ((x16 ^^^ (x16 <<< 13)) ^^^ ((x16 ^^^ (x16 <<< 13)) >>> 7)) ^^^ (((x16 ^^^ (x16 <<< 13)) ^^^ ((x16 ^^^ (x16 <<< 13)) >>> 7)) <<< 17), x149⟩ h)
      skip
      refine dy rfl (Yld.loadC0 (xs := x15) scal_26 rfl (RdH.own (k := 2) rfl) hx141 rfl) <| on 11 <| dy rfl (Yld.loadC0 (xs := x15) scal_26 rfl (RdH.own (k := 2) rfl) hx140 rfl) <| on 16 <| dy rfl (Yld.idxC (xs := x15) sty_63 rfl rfl (RdH.own (k := 2) rfl) hx142) <| on 17 <| WS.eff0 rfl (Eff0.storeC1 2 (xs := x15) (a' := x140) siz_26 rfl rfl rfl rfl rfl rfl hx143) (sc (sc sn)) <| on 18 <| dy rfl (Yld.idxC (xs := x143) sty_63 rfl rfl (RdH.own (k := 2) rfl) hx144) <| on 19 <| WS.eff0 rfl (Eff0.storeC1 2 (xs := x143) (a' := x141) siz_26 rfl rfl rfl rfl rfl rfl hx145) (sc (sc sn)) <| dd <| k137 _ _ <| bn <| tn <| k27 _ _ <| rg fun _ k150 => ?_
      obtain ⟨x151, hx151, h⟩ := bnd h
      exact mv rfl <| ya (Yld.addC rfl rfl hx151) <| asn rfl <| dn <| k150 _ _ <| tn <| kw (k19 ⟨x145, ((x16 ^^^ (x16 <<< 13)) ^^^ ((x16 ^^^ (x16 <<< 13)) >>> 7)) ^^^ (((x16 ^^^ (x16 <<< 13)) ^^^ ((x16 ^^^ (x16 <<< 13)) >>> 7)) <<< 17), x151⟩ h)
     skip
     refine dy rfl (Yld.idxC (xs := x15) sty_63 rfl rfl (RdH.own (k := 2) rfl) hx141) <| WD.two 10 15 (by kernel_rfl) ?_ ?_
     ·refine dy rfl (Yld.idxC (xs := x15) sty_63 rfl rfl (RdH.own (k := 2) rfl) hx140) <| WD.two 11 15 (by kernel_rfl) ?_ ?_
      ·refine dy rfl (Yld.loadC0 (xs := x15) scal_26 rfl (RdH.own (k := 2) rfl) hx140 rfl) <| on 15 <| dy rfl (Yld.loadC0 (xs := x15) scal_26 rfl (RdH.own (k := 2) rfl) hx141 rfl) <| on 16 <| dy rfl (Yld.idxC (xs := x15) sty_63 rfl rfl (RdH.own (k := 2) rfl) hx142) <| on 17 <| WS.eff0 rfl (Eff0.storeC1 2 (xs := x15) (a' := x140) siz_26 rfl rfl rfl rfl rfl rfl hx143) (sc (sc sn)) <| on 18 <| dy rfl (Yld.idxC (xs := x143) sty_63 rfl rfl (RdH.own (k := 2) rfl) hx144) <| on 19 <| WS.eff0 rfl (Eff0.storeC1 2 (xs := x143) (a' := x141) siz_26 rfl rfl rfl rfl rfl rfl hx145) (sc (sc sn)) <| dd <| k137 _ _ <| bn <| tn <| k27 _ _ <| rg fun _ k152 => ?_
       obtain ⟨x153, hx153, h⟩ := bnd h
       exact mv rfl <| ya (Yld.addC rfl rfl hx153) <| asn rfl <| dn <| k152 _ _ <| tn <| kw (k19 ⟨x145, ((x16 ^^^ (x16 <<< 13)) ^^^ ((x16 ^^^ (x16 <<< 13)) >>> 7)) ^^^ (((x16 ^^^ (x16 <<< 13)) ^^^ ((x16 ^^^ (x16 <<< 13)) >>> 7)) <<< 17), x153⟩ h)
      skip
      refine dy rfl (Yld.loadC0 (xs := x15) scal_26 rfl (RdH.own (k := 2) rfl) hx141 rfl) <| on 11 <| dy rfl (Yld.loadC0 (xs := x15) scal_26 rfl (RdH.own (k := 2) rfl) hx140 rfl) <| on 16 <| dy rfl (Yld.idxC (xs := x15) sty_63 rfl rfl (RdH.own (k := 2) rfl) hx142) <| on 17 <| WS.eff0 rfl (Eff0.storeC1 2 (xs := x15) (a' := x140) siz_26 rfl rfl rfl rfl rfl rfl hx143) (sc (sc sn)) <| on 18 <| dy rfl (Yld.idxC (xs := x143) sty_63 rfl rfl (RdH.own (k := 2) rfl) hx144) <| on 19 <| WS.eff0 rfl (Eff0.storeC1 2 (xs := x143) (a' := x141) siz_26 rfl rfl rfl rfl rfl rfl hx145) (sc (sc sn)) <| dd <| k137 _ _ <| bn <| tn <| k27 _ _ <| rg fun _ k154 => ?_
      obtain ⟨x155, hx155, h⟩ := bnd h
      exact mv rfl <| ya (Yld.addC rfl rfl hx155) <| asn rfl <| dn <| k154 _ _ <| tn <| kw (k19 ⟨x145, ((x16 ^^^ (x16 <<< 13)) ^^^ ((x16 ^^^ (x16 <<< 13)) >>> 7)) ^^^ (((x16 ^^^ (x16 <<< 13)) ^^^ ((x16 ^^^ (x16 <<< 13)) >>> 7)) <<< 17), x155⟩ h)
     skip
     refine dy rfl (Yld.loadC0 (xs := x15) scal_26 rfl (RdH.own (k := 2) rfl) hx141 rfl) <| on 10 <| dy rfl (Yld.idxC (xs := x15) sty_63 rfl rfl (RdH.own (k := 2) rfl) hx140) <| on 11 <| dy rfl (Yld.loadC0 (xs := x15) scal_26 rfl (RdH.own (k := 2) rfl) hx140 rfl) <| on 16 <| dy rfl (Yld.idxC (xs := x15) sty_63 rfl rfl (RdH.own (k := 2) rfl) hx142) <| on 17 <| WS.eff0 rfl (Eff0.storeC1 2 (xs := x15) (a' := x140) siz_26 rfl rfl rfl rfl rfl rfl hx143) (sc (sc sn)) <| on 18 <| dy rfl (Yld.idxC (xs := x143) sty_63 rfl rfl (RdH.own (k := 2) rfl) hx144) <| on 19 <| WS.eff0 rfl (Eff0.storeC1 2 (xs := x143) (a' := x141) siz_26 rfl rfl rfl rfl rfl rfl hx145) (sc (sc sn)) <| dd <| k137 _ _ <| bn <| tn <| k27 _ _ <| rg fun _ k156 => ?_
     obtain ⟨x157, hx157, h⟩ := bnd h
     exact mv rfl <| ya (Yld.addC rfl rfl hx157) <| asn rfl <| dn <| k156 _ _ <| tn <| kw (k19 ⟨x145, ((x16 ^^^ (x16 <<< 13)) ^^^ ((x16 ^^^ (x16 <<< 13)) >>> 7)) ^^^ (((x16 ^^^ (x16 <<< 13)) ^^^ ((x16 ^^^ (x16 <<< 13)) >>> 7)) <<< 17), x157⟩ h)
    refine ss <| k132 _ _ <| rd [(1, _), (106, _)] mixed fun _ k158 => ?_
    obtain ⟨x159, hx159, h⟩ := bnd h
    obtain ⟨x160, hx160, h⟩ := bnd h
    obtain ⟨x161, hx161, h⟩ := bnd h
    obtain ⟨x162, hx162, h⟩ := bnd h
    obtain ⟨x163, hx163, h⟩ := bnd h
    obtain ⟨x164, hx164, h⟩ := bnd h
    obtain ⟨x165, hx165, h⟩ := bnd h
    obtain ⟨x166, hx166, h⟩ := bnd h
    refine dm 0 rfl rfl <| dm 1 rfl rfl <| dm 2 rfl rfl <| dm 3 rfl rfl <| dm 4 rfl rfl <| du 5 rfl (Yld.addC rfl rfl hx159) <| dm 6 rfl rfl <| dm 7 rfl rfl <| dm 8 rfl rfl <| du 9 rfl (Yld.addC rfl rfl hx160) <| dm 12 rfl rfl <| dm 13 rfl rfl <| WD.two 10 14 (by kernel_rfl) ?_ ?_
    ·refine dy rfl (Yld.idxC (xs := x15) sty_63 rfl rfl (RdH.own (k := 2) rfl) hx161) <| WD.two 11 14 (by kernel_rfl) ?_ ?_
     ·refine dy rfl (Yld.loadC0 (xs := x15) scal_26 rfl (RdH.own (k := 2) rfl) hx161 rfl) <| on 14 <| dy rfl (Yld.idxC (xs := x15) sty_63 rfl rfl (RdH.own (k := 2) rfl) hx162) <| on 15 <| dy rfl (Yld.loadC0 (xs := x15) scal_26 rfl (RdH.own (k := 2) rfl) hx162 rfl) <| on 16 <| dy rfl (Yld.idxC (xs := x15) sty_63 rfl rfl (RdH.own (k := 2) rfl) hx163) <| on 17 <| WS.eff0 rfl (Eff0.storeC1 2 (xs := x15) (a' := x161) siz_26 rfl rfl rfl rfl rfl rfl hx164) (sc (sc sn)) <| on 18 <| dy rfl (Yld.idxC (xs := x164) sty_63 rfl rfl (RdH.own (k := 2) rfl) hx165) <| on 19 <| WS.eff0 rfl (Eff0.storeC1 2 (xs := x164) (a' := x162) siz_26 rfl rfl rfl rfl rfl rfl hx166) (sc (sc sn)) <| dd <| k158 _ _ <| bn <| tn <| k27 _ _ <| rg fun _ k167 => ?_
      obtain ⟨x168, hx168, h⟩ := bnd h
      exact mv rfl <| ya (Yld.addC rfl rfl hx168) <| asn rfl <| dn <| k167 _ _ <| tn <| kw (k19 ⟨x166, ((x16 ^^^ (x16 <<< 13)) ^^^ ((x16 ^^^ (x16 <<< 13)) >>> 7)) ^^^ (((x16 ^^^ (x16 <<< 13)) ^^^ ((x16 ^^^ (x16 <<< 13)) >>> 7)) <<< 17), x168⟩ h)
     skip
     refine dy rfl (Yld.idxC (xs := x15) sty_63 rfl rfl (RdH.own (k := 2) rfl) hx162) <| WD.two 11 15 (by kernel_rfl) ?_ ?_
     ·refine dy rfl (Yld.loadC0 (xs := x15) scal_26 rfl (RdH.own (k := 2) rfl) hx161 rfl) <| on 15 <| dy rfl (Yld.loadC0 (xs := x15) scal_26 rfl (RdH.own (k := 2) rfl) hx162 rfl) <| on 16 <| dy rfl (Yld.idxC (xs := x15) sty_63 rfl rfl (RdH.own (k := 2) rfl) hx163) <| on 17 <| WS.eff0 rfl (Eff0.storeC1 2 (xs := x15) (a' := x161) siz_26 rfl rfl rfl rfl rfl rfl hx164) (sc (sc sn)) <| on 18 <| dy rfl (Yld.idxC (xs := x164) sty_63 rfl rfl (RdH.own (k := 2) rfl) hx165) <| on 19 <| WS.eff0 rfl (Eff0.storeC1 2 (xs := x164) (a' := x162) siz_26 rfl rfl rfl rfl rfl rfl hx166) (sc (sc sn)) <| dd <| k158 _ _ <| bn <| tn <| k27 _ _ <| rg fun _ k169 => ?_
      obtain ⟨x170, hx170, h⟩ := bnd h
      exact mv rfl <| ya (Yld.addC rfl rfl hx170) <| asn rfl <| dn <| k169 _ _ <| tn <| kw (k19 ⟨x166, ((x16 ^^^ (x16 <<< 13)) ^^^ ((x16 ^^^ (x16 <<< 13)) >>> 7)) ^^^ (((x16 ^^^ (x16 <<< 13)) ^^^ ((x16 ^^^ (x16 <<< 13)) >>> 7)) <<< 17), x170⟩ h)
     skip
     refine dy rfl (Yld.loadC0 (xs := x15) scal_26 rfl (RdH.own (k := 2) rfl) hx162 rfl) <| on 11 <| dy rfl (Yld.loadC0 (xs := x15) scal_26 rfl (RdH.own (k := 2) rfl) hx161 rfl) <| on 16 <| dy rfl (Yld.idxC (xs := x15) sty_63 rfl rfl (RdH.own (k := 2) rfl) hx163) <| on 17 <| WS.eff0 rfl (Eff0.storeC1 2 (xs := x15) (a' := x161) siz_26 rfl rfl rfl rfl rfl rfl hx164) (sc (sc sn)) <| on 18 <| dy rfl (Yld.idxC (xs := x164) sty_63 rfl rfl (RdH.own (k := 2) rfl) hx165) <| on 19 <| WS.eff0 rfl (Eff0.storeC1 2 (xs := x164) (a' := x162) siz_26 rfl rfl rfl rfl rfl rfl hx166) (sc (sc sn)) <| dd <| k158 _ _ <| bn <| tn <| k27 _ _ <| rg fun _ k171 => ?_
     obtain ⟨x172, hx172, h⟩ := bnd h
     exact mv rfl <| ya (Yld.addC rfl rfl hx172) <| asn rfl <| dn <| k171 _ _ <| tn <| kw (k19 ⟨x166, ((x16 ^^^ (x16 <<< 13)) ^^^ ((x16 ^^^ (x16 <<< 13)) >>> 7)) ^^^ (((x16 ^^^ (x16 <<< 13)) ^^^ ((x16 ^^^ (x16 <<< 13)) >>> 7)) <<< 17), x172⟩ h)
    skip
    refine dy rfl (Yld.idxC (xs := x15) sty_63 rfl rfl (RdH.own (k := 2) rfl) hx162) <| WD.two 10 15 (by kernel_rfl) ?_ ?_
    ·refine dy rfl (Yld.idxC (xs := x15) sty_63 rfl rfl (RdH.own (k := 2) rfl) hx161) <| WD.two 11 15 (by kernel_rfl) ?_ ?_
     ·refine dy rfl (Yld.loadC0 (xs := x15) scal_26 rfl (RdH.own (k := 2) rfl) hx161 rfl) <| on 15 <| dy rfl (Yld.loadC0 (xs := x15) scal_26 rfl (RdH.own (k := 2) rfl) hx162 rfl) <| on 16 <| dy rfl (Yld.idxC (xs := x15) sty_63 rfl rfl (RdH.own (k := 2) rfl) hx163) <| on 17 <| WS.eff0 rfl (Eff0.storeC1 2 (xs := x15) (a' := x161) siz_26 rfl rfl rfl rfl rfl rfl hx164) (sc (sc sn)) <| on 18 <| dy rfl (Yld.idxC (xs := x164) sty_63 rfl rfl (RdH.own (k := 2) rfl) hx165) <| on 19 <| WS.eff0 rfl (Eff0.storeC1 2 (xs := x164) (a' := x162) siz_26 rfl rfl rfl rfl rfl rfl hx166) (sc (sc sn)) <| dd <| k158 _ _ <| bn <| tn <| k27 _ _ <| rg fun _ k173 => ?_
      obtain ⟨x174, hx174, h⟩ := bnd h
      exact mv rfl <| ya (Yld.addC rfl rfl hx174) <| asn rfl <| dn <| k173 _ _ <| tn <| kw (k19 ⟨x166, ((x16 ^^^ (x16 <<< 13)) ^^^ ((x16 ^^^ (x16 <<< 13)) >>> 7)) ^^^ (((x16 ^^^ (x16 <<< 13)) ^^^ ((x16 ^^^ (x16 <<< 13)) >>> 7)) <<< 17), x174⟩ h)
     skip
     refine dy rfl (Yld.loadC0 (xs := x15) scal_26 rfl (RdH.own (k := 2) rfl) hx162 rfl) <| on 11 <| dy rfl (Yld.loadC0 (xs := x15) scal_26 rfl (RdH.own (k := 2) rfl) hx161 rfl) <| on 16 <| dy rfl (Yld.idxC (xs := x15) sty_63 rfl rfl (RdH.own (k := 2) rfl) hx163) <| on 17 <| WS.eff0 rfl (Eff0.storeC1 2 (xs := x15) (a' := x161) siz_26 rfl rfl rfl rfl rfl rfl hx164) (sc (sc sn)) <| on 18 <| dy rfl (Yld.idxC (xs := x164) sty_63 rfl rfl (RdH.own (k := 2) rfl) hx165) <| on 19 <| WS.eff0 rfl (Eff0.storeC1 2 (xs := x164) (a' := x162) siz_26 rfl rfl rfl rfl rfl rfl hx166) (sc (sc sn)) <| dd <| k158 _ _ <| bn <| tn <| k27 _ _ <| rg fun _ k175 => ?_
     obtain ⟨x176, hx176, h⟩ := bnd h
     exact mv rfl <| ya (Yld.addC rfl rfl hx176) <| asn rfl <| dn <| k175 _ _ <| tn <| kw (k19 ⟨x166, ((x16 ^^^ (x16 <<< 13)) ^^^ ((x16 ^^^ (x16 <<< 13)) >>> 7)) ^^^ (((x16 ^^^ (x16 <<< 13)) ^^^ ((x16 ^^^ (x16 <<< 13)) >>> 7)) <<< 17), x176⟩ h)
    skip
    refine dy rfl (Yld.loadC0 (xs := x15) scal_26 rfl (RdH.own (k := 2) rfl) hx162 rfl) <| on 10 <| dy rfl (Yld.idxC (xs := x15) sty_63 rfl rfl (RdH.own (k := 2) rfl) hx161) <| on 11 <| dy rfl (Yld.loadC0 (xs := x15) scal_26 rfl (RdH.own (k := 2) rfl) hx161 rfl) <| on 16 <| dy rfl (Yld.idxC (xs := x15) sty_63 rfl rfl (RdH.own (k := 2) rfl) hx163) <| on 17 <| WS.eff0 rfl (Eff0.storeC1 2 (xs := x15) (a' := x161) siz_26 rfl rfl rfl rfl rfl rfl hx164) (sc (sc sn)) <| on 18 <| dy rfl (Yld.idxC (xs := x164) sty_63 rfl rfl (RdH.own (k := 2) rfl) hx165) <| on 19 <| WS.eff0 rfl (Eff0.storeC1 2 (xs := x164) (a' := x162) siz_26 rfl rfl rfl rfl rfl rfl hx166) (sc (sc sn)) <| dd <| k158 _ _ <| bn <| tn <| k27 _ _ <| rg fun _ k177 => ?_
    obtain ⟨x178, hx178, h⟩ := bnd h
    exact mv rfl <| ya (Yld.addC rfl rfl hx178) <| asn rfl <| dn <| k177 _ _ <| tn <| kw (k19 ⟨x166, ((x16 ^^^ (x16 <<< 13)) ^^^ ((x16 ^^^ (x16 <<< 13)) >>> 7)) ^^^ (((x16 ^^^ (x16 <<< 13)) ^^^ ((x16 ^^^ (x16 <<< 13)) >>> 7)) <<< 17), x178⟩ h)
   skip
   refine dy rfl (Yld.loadB (k := 106) scal_130 rfl rfl rfl) <| du 6 rfl (Yld.shlU_u64 (a := ((x16 ^^^ (x16 <<< 13)) ^^^ ((x16 ^^^ (x16 <<< 13)) >>> 7))) (m := 17) rfl rfl) <| on 2 <| dy rfl (Yld.loadB (k := 106) scal_130 rfl rfl rfl) <| du 7 rfl (Yld.xor_u64 (a := ((x16 ^^^ (x16 <<< 13)) ^^^ ((x16 ^^^ (x16 <<< 13)) >>> 7))) (b := (((x16 ^^^ (x16 <<< 13)) ^^^ ((x16 ^^^ (x16 <<< 13)) >>> 7)) <<< 17)) rfl rfl) <| du 8 rfl (Yld.nilCheckP rfl) <| on 9 <| WS.eff0 rfl (Eff0.storeB 106 siz_130 rfl rfl rfl rfl (Nat.le_of_ble_eq_true rfl)) (sc (sc sn)) <| dd <| k130 _ _ <| sr fun _ k179 => mv rfl <| ya (Yld.nilCheckP rfl) <| ya (Yld.loadB (k := 106) scal_130 rfl rfl rfl) <| asn rfl <| dn <| k179 _ _ <| re <| Ret.go (ResIs.one rfl rfl) <| mv rfl <| ya (Yld.sub_u64 (a := x8) (b := 1#64) rfl rfl) <| ya (Yld.and_u64 (a := (((x16 ^^^ (x16 <<< 13)) ^^^ ((x16 ^^^ (x16 <<< 13)) >>> 7)) ^^^ (((x16 ^^^ (x16 <<< 13)) ^^^ ((x16 ^^^ (x16 <<< 13)) >>> 7)) <<< 17))) (b := (x8 - 1#64)) rfl rfl) <| ya (Yld.conv_u64_i64 (a := ((((x16 ^^^ (x16 <<< 13)) ^^^ ((x16 ^^^ (x16 <<< 13)) >>> 7)) ^^^ (((x16 ^^^ (x16 <<< 13)) ^^^ ((x16 ^^^ (x16 <<< 13)) >>> 7)) <<< 17)) &&& (x8 - 1#64))) some_75 und_3 rfl) <| asn rfl <| dn <| k28 _ _ <| sq fun _ k180 => sr fun _ k181 => mv rfl <| mv rfl <| ya (Yld.geq rfl rfl) <| dn <| k181 _ _ <| cnd h rfl decide_eq_true decide_eq_false (fun hc182 h => ?_) fun hc182 h => ?_
   ·refine rg fun _ k183 => ?_
    obtain ⟨x184, hx184, h⟩ := bnd h
    refine mv rfl <| mv rfl <| ya (Yld.subC rfl rfl hx184) <| asn rfl <| dn <| k183 _ _ <| tn <| k180 _ _ <| rd [(1, _), (106, _)] mixed fun _ k185 => ?_
    obtain ⟨x186, hx186, h⟩ := bnd h
    obtain ⟨x187, hx187, h⟩ := bnd h
    obtain ⟨x188, hx188, h⟩ := bnd h
    obtain ⟨x189, hx189, h⟩ := bnd h
    obtain ⟨x190, hx190, h⟩ := bnd h
    obtain ⟨x191, hx191, h⟩ := bnd h
    obtain ⟨x192, hx192, h⟩ := bnd h
    obtain ⟨x193, hx193, h⟩ := bnd h
    refine dm 0 rfl rfl <| dm 1 rfl rfl <| dm 2 rfl rfl <| dm 3 rfl rfl <| dm 4 rfl rfl <| du 5 rfl (Yld.addC rfl rfl hx186) <| dm 6 rfl rfl <| dm 7 rfl rfl <| dm 8 rfl rfl <| du 9 rfl (Yld.addC rfl rfl hx187) <| dm 12 rfl rfl <| dm 13 rfl rfl <| WD.two 10 14 (by kernel_rfl) ?_ ?_
    ·refine dy rfl (Yld.idxC (xs := x15) sty_63 rfl rfl (RdH.own (k := 2) rfl) hx188) <| WD.two 11 14 (by kernel_rfl) ?_ ?_
     ·refine dy rfl (Yld.loadC0 (xs := x15) scal_26 rfl (RdH.own (k := 2) rfl) hx188 rfl) <| on 14 <| dy rfl (Yld.idxC (xs := x15) sty_63 rfl rfl (RdH.own (k := 2) rfl) hx189) <| on 15 <| dy rfl (Yld.loadC0 (xs := x15) scal_26 rfl (RdH.own (k := 2) rfl) hx189 rfl) <| on 16 <| dy rfl (Yld.idxC (xs := x15) sty_63 rfl rfl (RdH.own (k := 2) rfl) hx190) <| on 17 <| WS.eff0 rfl (Eff0.storeC1 2 (xs := x15) (a' := x188) siz_26 rfl rfl rfl rfl rfl rfl hx191) (sc (sc sn)) <| on 18 <| dy rfl (Yld.idxC (xs := x191) sty_63 rfl rfl (RdH.own (k := 2) rfl) hx192) <| on 19 <| WS.eff0 rfl (Eff0.storeC1 2 (xs := x191) (a' := x189) siz_26 rfl rfl rfl rfl rfl rfl hx193) (sc (sc sn)) <| dd <| k185 _ _ <| bn <| tn <| k27 _ _ <| rg fun _ k194 => ?_
      obtain ⟨x195, hx195, h⟩ := bnd h
      exact mv rfl <| ya (Yld.addC rfl rfl hx195) <| asn rfl <| dn <| k194 _ _ <| tn <| kw (k19 ⟨x193, ((x16 ^^^ (x16 <<< 13)) ^^^ ((x16 ^^^ (x16 <<< 13)) >>> 7)) ^^^ (((x16 ^^^ (x16 <<< 13)) ^^^ ((x16 ^^^ (x16 <<< 13)) >>> 7)) <<< 17), x195⟩ h)
     skip
     refine dy rfl (Yld.idxC (xs := x15) sty_63 rfl rfl (RdH.own (k := 2) rfl) hx189) <| WD.two 11 15 (by kernel_rfl) ?_ ?_
     ·refine dy rfl (Yld.loadC0 (xs := x15) scal_26 rfl (RdH.own (k := 2) rfl) hx188 rfl) <| on 15 <| dy rfl (Yld.loadC0 (xs := x15) scal_26 rfl (RdH.own (k := 2) rfl) hx189 rfl) <| on 16 <| dy rfl (Yld.idxC (xs := x15) sty_63 rfl rfl (RdH.own (k := 2) rfl) hx190) <| on 17 <| WS.eff0 rfl (Eff0.storeC1 2 (xs := x15) (a' := x188) siz_26 rfl rfl rfl rfl rfl rfl hx191) (sc (sc sn)) <| on 18 <| dy rfl (Yld.idxC (xs := x191) sty_63 rfl rfl (RdH.own (k := 2) rfl) hx192) <| on 19 <| WS.eff0 rfl (Eff0.storeC1 2 (xs := x191) (a' := x189) siz_26 rfl rfl rfl rfl rfl rfl hx193) (sc (sc sn)) <| dd <| k185 _ _ <| bn <| tn <| k27 _ _ <| rg fun _ k196 => ?_
      obtain ⟨x197, hx197, h⟩ := bnd h
      exact mv rfl <| ya (Yld.addC rfl rfl hx197) <| asn rfl <| dn <| k196 _ _ <| tn <| kw (k19 ⟨x193, ((x16 ^^^ (x16 <<< 13)) ^^^ ((x16 ^^^ (x16 <<< 13)) >>> 7)) ^^^ (((x16 ^^^ (x16 <<< 13)) ^^^ ((x16 ^^^ (x16 <<< 13)) >>> 7)) <<< 17), x197⟩ h)
     skip
     refine dy rfl (Yld.loadC0 (xs := x15) scal_26 rfl (RdH.own (k := 2) rfl) hx189 rfl) <| on 11 <| dy rfl (Yld.loadC0 (xs := x15) scal_26 rfl (RdH.own (k := 2) rfl) hx188 rfl) <| on 16 <| dy rfl (Yld.idxC (xs := x15) sty_63 rfl rfl (RdH.own (k := 2) rfl) hx190) <| on 17 <| WS.eff0 rfl (Eff0.storeC1 2 (xs := x15) (a' := x188) siz_26 rfl rfl rfl rfl rfl rfl hx191) (sc (sc sn)) <| on 18 <| dy rfl (Yld.idxC (xs := x191) sty_63 rfl rfl (RdH.own (k := 2) rfl) hx192) <| on 19 <| WS.eff0 rfl (Eff0.storeC1 2 (xs := x191) (a' := x189) siz_26 rfl rfl rfl rfl rfl rfl hx193) (sc (sc sn)) <| dd <| k185 _ _ <| bn <| tn <| k27 _ _ <| rg fun _ k198 => ?_
     obtain ⟨x199, hx199, h⟩ := bnd h
     exact mv rfl <| ya (Yld.addC rfl rfl hx199) <| asn rfl <| dn <| k198 _ _ <| tn <| kw (k19 ⟨x193, ((x16 ^^^ (x16 <<< 13)) ^^^ ((x16 ^^^ (x16 <<< 13)) >>> 7)) ^^^ (((x16 ^^^ (x16 <<< 13)) ^^^ ((x16 ^^^ (x16 <<< 13)) >>> 7)) <<< 17), x199⟩ h)
    skip
    refine dy rfl (Yld.idxC (xs := x15) sty_63 rfl rfl (RdH.own (k := 2) rfl) hx189) <| WD.two 10 15 (by kernel_rfl) ?_ ?_
    ·refine dy rfl (Yld.idxC (xs := x15) sty_63 rfl rfl (RdH.own (k := 2) rfl) hx188) <| WD.two 11 15 (by kernel_rfl) ?_ ?_
     ·refine dy rfl (Yld.loadC0 (xs := x15) scal_26 rfl (RdH.own (k := 2) rfl) hx188 rfl) <| on 15 <| dy rfl (Yld.loadC0 (xs := x15) scal_26 rfl (RdH.own (k := 2) rfl) hx189 rfl) <| on 16 <| dy rfl (Yld.idxC (xs := x15) sty_63 rfl rfl (RdH.own (k := 2) rfl) hx190) <| on 17 <| WS.eff0 rfl (Eff0.storeC1 2 (xs := x15) (a' := x188) siz_26 rfl rfl rfl rfl rfl rfl hx191) (sc (sc sn)) <| on 18 <| dy rfl (Yld.idxC (xs := x191) sty_63 rfl rfl (RdH.own (k := 2) rfl) hx192) <| on 19 <| WS.eff0 rfl (Eff0.storeC1 2 (xs := x191) (a' := x189) siz_26 rfl rfl rfl rfl rfl rfl hx193) (sc (sc sn)) <| dd <| k185 _ _ <| bn <| tn <| k27 _ _ <| rg fun _ k200 => ?_
      obtain ⟨x201, hx201, h⟩ := bnd h
      exact mv rfl <| ya (Yld.addC rfl rfl hx201) <| asn rfl <| dn <| k200 _ _ <| tn <| kw (k19 ⟨x193, ((x16 ^^^ (x16 <<< 13)) ^^^ ((x16 ^^^ (x16 <<< 13)) >>> 7)) ^^^ (((x16 ^^^ (x16 <<< 13)) ^^^ ((x16 ^^^ (x16 <<< 13)) >>> 7)) <<< 17), x201⟩ h)
     skip
     refine dy rfl (Yld.loadC0 (xs := x15) scal_26 rfl (RdH.own (k := 2) rfl) hx189 rfl) <| on 11 <| dy rfl (Yld.loadC0 (xs := x15) scal_26 rfl (RdH.own (k := 2) rfl) hx188 rfl) <| on 16 <| dy rfl (Yld.idxC (xs := x15) sty_63 rfl rfl (RdH.own (k := 2) rfl) hx190) <| on 17 <| WS.eff0 rfl (Eff0.storeC1 2 (xs := x15) (a' := x188) siz_26 rfl rfl rfl rfl rfl rfl hx191) (sc (sc sn)) <| on 18 <| dy rfl (Yld.idxC (xs := x191) sty_63 rfl rfl (RdH.own (k := 2) rfl) hx192) <| on 19 <| WS.eff0 rfl (Eff0.storeC1 2 (xs := x191) (a' := x189) siz_26 rfl rfl rfl rfl rfl rfl hx193) (sc (sc sn)) <| dd <| k185 _ _ <| bn <| tn <| k27 _ _ <| rg fun _ k202 => ?_
     obtain ⟨x203, hx203, h⟩ := bnd h
     exact mv rfl <| ya (Yld.addC rfl rfl hx203) <| asn rfl <| dn <| k202 _ _ <| tn <| kw (k19 ⟨x193, ((x16 ^^^ (x16 <<< 13)) ^^^ ((x16 ^^^ (x16 <<< 13)) >>> 7)) ^^^ (((x16 ^^^ (x16 <<< 13)) ^^^ ((x16 ^^^ (x16 <<< 13)) >>> 7)) <<< 17), x203⟩ h)
    skip
    refine dy rfl (Yld.loadC0 (xs := x15) scal_26 rfl (RdH.own (k := 2) rfl) hx189 rfl) <| on 10 <| dy rfl (Yld.idxC (xs := x15) sty_63 rfl rfl (RdH.own (k := 2) rfl) hx188) <| on 11 <| dy rfl (Yld.loadC0 (xs := x15) scal_26 rfl (RdH.own (k := 2) rfl) hx188 rfl) <| on 16 <| dy rfl (Yld.idxC (xs := x15) sty_63 rfl rfl (RdH.own (k := 2) rfl) hx190) <| on 17 <| WS.eff0 rfl (Eff0.storeC1 2 (xs := x15) (a' := x188) siz_26 rfl rfl rfl rfl rfl rfl hx191) (sc (sc sn)) <| on 18 <| dy rfl (Yld.idxC (xs := x191) sty_63 rfl rfl (RdH.own (k := 2) rfl) hx192) <| on 19 <| WS.eff0 rfl (Eff0.storeC1 2 (xs := x191) (a' := x189) siz_26 rfl rfl rfl rfl rfl rfl hx193) (sc (sc sn)) <| dd <| k185 _ _ <| bn <| tn <| k27 _ _ <| rg fun _ k204 => ?_
    obtain ⟨x205, hx205, h⟩ := bnd h
    exact mv rfl <| ya (Yld.addC rfl rfl hx205) <| asn rfl <| dn <| k204 _ _ <| tn <| kw (k19 ⟨x193, ((x16 ^^^ (x16 <<< 13)) ^^^ ((x16 ^^^ (x16 <<< 13)) >>> 7)) ^^^ (((x16 ^^^ (x16 <<< 13)) ^^^ ((x16 ^^^ (x16 <<< 13)) >>> 7)) <<< 17), x205⟩ h)
   refine ss <| k180 _ _ <| rd [(1, _), (106, _)] mixed fun _ k206 => ?_
   obtain ⟨x207, hx207, h⟩ := bnd h
   obtain ⟨x208, hx208, h⟩ := bnd h
   obtain ⟨x209, hx209, h⟩ := bnd h
   obtain ⟨x210, hx210, h⟩ := bnd h
   obtain ⟨x211, hx211, h⟩ := bnd h
   obtain ⟨x212, hx212, h⟩ := bnd h
   obtain ⟨x213, hx213, h⟩ := bnd h
   obtain ⟨x214, hx214, h⟩ := bnd h
   refine dm 0 rfl rfl <| dm 1 rfl rfl <| dm 2 rfl rfl <| dm 3 rfl rfl <| dm 4 rfl rfl <| du 5 rfl (Yld.addC rfl rfl hx207) <| dm 6 rfl rfl <| dm 7 rfl rfl <| dm 8 rfl rfl <| du 9 rfl (Yld.addC rfl rfl hx208) <| dm 12 rfl rfl <| dm 13 rfl rfl <| WD.two 10 14 (by kernel_rfl) ?_ ?_
   ·refine dy rfl (Yld.idxC (xs := x15) sty_63 rfl rfl (RdH.own (k := 2) rfl) hx209) <| WD.two 11 14 (by kernel_rfl) ?_ ?_
    ·refine dy rfl (Yld.loadC0 (xs := x15) scal_26 rfl (RdH.own (k := 2) rfl) hx209 rfl) <| on 14 <| dy rfl (Yld.idxC (xs := x15) sty_63 rfl rfl (RdH.own (k := 2) rfl) hx210) <| on 15 <| dy rfl (Yld.loadC0 (xs := x15) scal_26 rfl (RdH.own (k := 2) rfl) hx210 rfl) <| on 16 <| dy rfl (Yld.idxC (xs := x15) sty_63 rfl rfl (RdH.own (k := 2) rfl) hx211) <| on 17 <| WS.eff0 rfl (Eff0.storeC1 2 (xs := x15) (a' := x209) siz_26 rfl rfl rfl rfl rfl rfl hx212) (sc (sc sn)) <| on 18 <| dy rfl (Yld.idxC (xs := x212) sty_63 rfl rfl (RdH.own (k := 2) rfl) hx213) <| on 19 <| WS.eff0 rfl (Eff0.storeC1 2 (xs := x212) (a' := x210) siz_26 rfl rfl rfl rfl rfl rfl hx214) (sc (sc sn)) <| dd <| k206 _ _ <| bn <| tn <| k27 _ _ <| rg fun _ k215 => ?_
     obtain ⟨x216, hx216, h⟩ := bnd h
     exact mv rfl <| ya (Yld.addC rfl rfl hx216) <| asn rfl <| dn <| k215 _ _ <| tn <| kw (k19 ⟨x214, ((x16 ^^^ (x16 <<< 13)) ^^^ ((x16 ^^^ (x16 <<< 13)) >>> 7)) ^^^ (((x16 ^^^ (x16 <<< 13)) ^^^ ((x16 ^^^ (x16 <<< 13)) >>> 7)) <<< 17), x216⟩ h)
    skip
    refine dy rfl (Yld.idxC (xs := x15) sty_63 rfl rfl (RdH.own (k := 2) rfl) hx210) <| WD.two 11 15 (by kernel_rfl) ?_ ?_
    ·refine dy rfl (Yld.loadC0 (xs := x15) scal_26 rfl (RdH.own (k := 2) rfl) hx209 rfl) <| on 15 <| dy rfl (Yld.loadC0 (xs := x15) scal_26 rfl (RdH.own (k := 2) rfl) hx210 rfl) <| on 16 <| dy rfl (Yld.idxC (xs := x15) sty_63 rfl rfl (RdH.own (k := 2) rfl) hx211) <| on 17 <| WS.eff0 rfl (Eff0.storeC1 2 (xs := x15) (a' := x209) siz_26 rfl rfl rfl rfl rfl rfl hx212) (sc (sc sn)) <| on 18 <| dy rfl (Yld.idxC (xs := x212) sty_63 rfl rfl (RdH.own (k := 2) rfl) hx213) <| on 19 <| WS.eff0 rfl (Eff0.storeC1 2 (xs := x212) (a' := x210) siz_26 rfl rfl rfl rfl rfl rfl hx214) (sc (sc sn)) <| dd <| k206 _ _ <| bn <| tn <| k27 _ _ <| rg fun _ k217 => ?_
     obtain ⟨x218, hx218, h⟩ := bnd h
     exact mv rfl <| ya (Yld.addC rfl rfl hx218) <| asn rfl <| dn <| k217 _ _ <| tn <| kw (k19 ⟨x214, ((x16 ^^^ (x16 <<< 13)) ^^^ ((x16 ^^^ (x16 <<< 13)) >>> 7)) ^^^ (((x16 ^^^ (x16 <<< 13)) ^^^ ((x16 ^^^ (x16 <<< 13)) >>> 7)) <<< 17), x218⟩ h)
    skip
    refine dy rfl (Yld.loadC0 (xs := x15) scal_26 rfl (RdH.own (k := 2) rfl) hx210 rfl) <| on 11 <| dy rfl (Yld.loadC0 (xs := x15) scal_26 rfl (RdH.own (k := 2) rfl) hx209 rfl) <| on 16 <| dy rfl (Yld.idxC (xs := x15) sty_63 rfl rfl (RdH.own (k := 2) rfl) hx211) <| on 17 <| WS.eff0 rfl (Eff0.storeC1 2 (xs := x15) (a' := x209) siz_26 rfl rfl rfl rfl rfl rfl hx212) (sc (sc sn)) <| on 18 <| dy rfl (Yld.idxC (xs := x212) sty_63 rfl rfl (RdH.own (k := 2) rfl) hx213) <| on 19 <| WS.eff0 rfl (Eff0.storeC1 2 (xs := x212) (a' := x210) siz_26 rfl rfl rfl rfl rfl rfl hx214) (sc (sc sn)) <| dd <| k206 _ _ <| bn <| tn <| k27 _ _ <| rg fun _ k219 => ?_
    obtain ⟨x220, hx220, h⟩ := bnd h
    exact mv rfl <| ya (Yld.addC rfl rfl hx220) <| asn rfl <| dn <| k219 _ _ <| tn <| kw (k19 ⟨x214, ((x16 ^^^ (x16 <<< 13)) ^^^ ((x16 ^^^ (x16 <<< 13)) >>> 7)) ^^^ (((x16 ^^^ (x16 <<< 13)) ^^^ ((x16 ^^^ (x16 <<< 13)) >>> 7)) <<< 17), x220⟩ h)
   skip
   refine dy rfl (Yld.idxC (xs := x15) sty_63 rfl rfl (RdH.own (k := 2) rfl) hx210) <| WD.two 10 15 (by kernel_rfl) ?_ ?_
   ·refine dy rfl (Yld.idxC (xs := x15) sty_63 rfl rfl (RdH.own (k := 2) rfl) hx209) <| WD.two 11 15 (by kernel_rfl) ?_ ?_
    ·refine dy rfl (Yld.loadC0 (xs := x15) scal_26 rfl (RdH.own (k := 2) rfl) hx209 rfl) <| on 15 <| dy rfl (Yld.loadC0 (xs := x15) scal_26 rfl (RdH.own (k := 2) rfl) hx210 rfl) <| on 16 <| dy rfl (Yld.idxC (xs := x15) sty_63 rfl rfl (RdH.own (k := 2) rfl) hx211) <| on 17 <| WS.eff0 rfl (Eff0.storeC1 2 (xs := x15) (a' := x209) siz_26 rfl rfl rfl rfl rfl rfl hx212) (sc (sc sn)) <| on 18 <| dy rfl (Yld.idxC (xs := x212) sty_63 rfl rfl (RdH.own (k := 2) rfl) hx213) <| on 19 <| WS.eff0 rfl (Eff0.storeC1 2 (xs := x212) (a' := x210) siz_26 rfl rfl rfl rfl rfl rfl hx214) (sc (sc sn)) <| dd <| k206 _ _ <| bn <| tn <| k27 _ _ <| rg fun _ k221 => ?_
     obtain ⟨x222, hx222, h⟩ := bnd h
     exact mv rfl <| ya (Yld.addC rfl rfl hx222) <| asn rfl <| dn <| k221 _ _ <| tn <| kw (k19 ⟨x214, ((x16 ^^^ (x16 <<< 13)) ^^^ ((x16 ^^^ (x16 <<< 13)) >>> 7)) ^^^ (((x16 ^^^ (x16 <<< 13)) ^^^ ((x16 ^^^ (x16 <<< 13)) >>> 7)) <<< 17), x222⟩ h)
    skip
    refine dy rfl (Yld.loadC0 (xs := x15) scal_26 rfl (RdH.own (k := 2) rfl) hx210 rfl) <| on 11 <| dy rfl (Yld.loadC0 (xs := x15) scal_26 rfl (RdH.own (k := 2) rfl) hx209 rfl) <| on 16 <| dy rfl (Yld.idxC (xs := x15) sty_63 rfl rfl (RdH.own (k := 2) rfl) hx211) <| on 17 <| WS.eff0 rfl (Eff0.storeC1 2 (xs := x15) (a' := x209) siz_26 rfl rfl rfl rfl rfl rfl hx212) (sc (sc sn)) <| on 18 <| dy rfl (Yld.idxC (xs := x212) sty_63 rfl rfl (RdH.own (k := 2) rfl) hx213) <| on 19 <| WS.eff0 rfl (Eff0.storeC1 2 (xs := x212) (a' := x210) siz_26 rfl rfl rfl rfl rfl rfl hx214) (sc (sc sn)) <| dd <| k206 _ _ <| bn <| tn <| k27 _ _ <| rg fun _ k223 => ?_
    obtain ⟨x224, hx224, h⟩ := bnd h
    exact mv rfl <| ya (Yld.addC rfl rfl hx224) <| asn rfl <| dn <| k223 _ _ <| tn <| kw (k19 ⟨x214, ((x16 ^^^ (x16 <<< 13)) ^^^ ((x16 ^^^ (x16 <<< 13)) >>> 7)) ^^^ (((x16 ^^^ (x16 <<< 13)) ^^^ ((x16 ^^^ (x16 <<< 13)) >>> 7)) <<< 17), x224⟩ h)
   skip
   refine dy rfl (Yld.loadC0 (xs := x15) scal_26 rfl (RdH.own (k := 2) rfl) hx210 rfl) <| on 10 <| dy rfl (Yld.idxC (xs := x15) sty_63 rfl rfl (RdH.own (k := 2) rfl) hx209) <| on 11 <| dy rfl (Yld.loadC0 (xs := x15) scal_26 rfl (RdH.own (k := 2) rfl) hx209 rfl) <| on 16 <| dy rfl (Yld.idxC (xs := x15) sty_63 rfl rfl (RdH.own (k := 2) rfl) hx211) <| on 17 <| WS.eff0 rfl (Eff0.storeC1 2 (xs := x15) (a' := x209) siz_26 rfl rfl rfl rfl rfl rfl hx212) (sc (sc sn)) <| on 18 <| dy rfl (Yld.idxC (xs := x212) sty_63 rfl rfl (RdH.own (k := 2) rfl) hx213) <| on 19 <| WS.eff0 rfl (Eff0.storeC1 2 (xs := x212) (a' := x210) siz_26 rfl rfl rfl rfl rfl rfl hx214) (sc (sc sn)) <| dd <| k206 _ _ <| bn <| tn <| k27 _ _ <| rg fun _ k225 => ?_
   obtain ⟨x226, hx226, h⟩ := bnd h
   exact mv rfl <| ya (Yld.addC rfl rfl hx226) <| asn rfl <| dn <| k225 _ _ <| tn <| kw (k19 ⟨x214, ((x16 ^^^ (x16 <<< 13)) ^^^ ((x16 ^^^ (x16 <<< 13)) >>> 7)) ^^^ (((x16 ^^^ (x16 <<< 13)) ^^^ ((x16 ^^^ (x16 <<< 13)) >>> 7)) <<< 17), x226⟩ h)
  refine xi <| te <| te <| bx ?_
  injection h with h; subst h
  exact Ret.mut (ResIs.zero rfl) (sc (sc sn)) ⟨rfl, rfl⟩
 refine WC.skip ?_
 injection h with h; subst h
 exact Ret.mut (ResIs.zero rfl) (sc (sc sn)) ⟨rfl, rfl⟩
theorem w_slices_choosePivotOrdered_uint64 (M0 : Mem) (A00 : Option Addr) (n00 c00 : Nat) (x00 : List (BitVec 64)) (hf00 : SlT M0 A00 n00 c00 x00) (x01 x02 : Int) {res : Int × Int} (h : m_slices_choosePivotOrdered_uint64 x00 x01 x02 = some res) :
  Fn Try.prog 64 #[.slice A00 n00 c00, I64 x01, I64 x02] M0 fun r M' es => r = .tuple #[I64 res.1, I64 res.2] /\ es = [] := by
 refine Fn.intro (N := 57) Try.func64 rfl rfl (Nat.le_of_ble_eq_true rfl) fun w0 => ?_
 unfold m_slices_choosePivotOrdered_uint64 at h
 refine sr fun _ k1 => asn rfl <| asn rfl <| dn <| k1 _ _ <| sr fun _ k2 => ?_
 obtain ⟨x3, hx3, h⟩ := bnd h
 refine mv rfl <| mv rfl <| ya (Yld.subC rfl rfl hx3) <| asn rfl <| dn <| k2 _ _ <| sr fun _ k4 => al 105 zr_3 fun g5 => dn <| k4 _ _ <| sr fun _ k6 => ?_
 obtain ⟨x7, hx7, h⟩ := bnd h
 obtain ⟨x8, hx8, h⟩ := bnd h
 obtain ⟨x9, hx9, h⟩ := bnd h
 refine mv rfl <| mv rfl <| ya (Yld.quoC rfl rfl hx7) <| ya (Yld.mulC rfl rfl hx8) <| ya (Yld.addC rfl rfl hx9) <| asn rfl <| dn <| k6 _ _ <| sr fun _ k10 => ?_
 obtain ⟨x11, hx11, h⟩ := bnd h
 obtain ⟨x12, hx12, h⟩ := bnd h
 obtain ⟨x13, hx13, h⟩ := bnd h
 refine mv rfl <| mv rfl <| ya (Yld.quoC rfl rfl hx11) <| ya (Yld.mulC rfl rfl hx12) <| ya (Yld.addC rfl rfl hx13) <| asn rfl <| dn <| k10 _ _ <| sr fun _ k14 => ?_
 obtain ⟨x15, hx15, h⟩ := bnd h
 obtain ⟨x16, hx16, h⟩ := bnd h
 obtain ⟨x17, hx17, h⟩ := bnd h
 refine mv rfl <| mv rfl <| ya (Yld.quoC rfl rfl hx15) <| ya (Yld.mulC rfl rfl hx16) <| ya (Yld.addC rfl rfl hx17) <| asn rfl <| dn <| k14 _ _ <| sq fun _ k18 => sr fun _ k19 => mv rfl <| ya (Yld.geq rfl rfl) <| dn <| k19 _ _ <| cnd h rfl decide_eq_true decide_eq_false (fun hc20 h => ?_) fun hc20 h => ?_
 ·refine sq fun _ k21 => sr fun _ k22 => mv rfl <| ya (Yld.geq rfl rfl) <| dn <| k22 _ _ <| cnd h rfl decide_eq_true decide_eq_false (fun hc23 h => ?_) fun hc23 h => ?_
  ·refine sr fun _ k24 => ?_
   cases h
  refine ss <| k21 _ _ <| rg fun _ k25 => mv rfl <| mv rfl <| mv rfl <| mv rfl <| WL.inl (by decide) Try.func76 nm_76 rfl rfl (Tri.intro (N := 36) Try.func76 rfl rfl (Nat.le_of_ble_eq_true rfl) ?_)
  refine sr fun _ k26 => asn rfl <| dn <| k26 _ _ <| sr fun _ k27 => mv rfl <| mv rfl <| mv rfl <| mv rfl <| WL.inl (by decide) Try.func78 nm_78 rfl rfl (Tri.intro (N := 28) Try.func78 rfl rfl (Nat.le_of_ble_eq_true rfl) ?_)
  refine sr fun _ k28 => asn rfl <| asn rfl <| dn <| k28 _ _ <| sq fun _ k29 => sd [(0, _), (105, _)] mixed fun _ k30 => ?_
  obtain ⟨x31, hx31, h⟩ := bnd h
  obtain ⟨x32, hx32, h⟩ := bnd h
  obtain ⟨x33, hx33, h⟩ := bnd h
  refine dm 0 rfl rfl <| dm 1 rfl rfl <| du 2 rfl (Yld.idxC (xs := x00) sty_63 rfl rfl (RdH.memM (k := 0) rfl hf00) hx31) <| du 3 rfl (Yld.loadC0 (xs := x00) scal_26 rfl (RdH.memM (k := 0) rfl hf00) hx31 rfl) <| dm 4 rfl rfl <| dm 5 rfl rfl <| du 6 rfl (Yld.idxC (xs := x00) sty_63 rfl rfl (RdH.memM (k := 0) rfl hf00) hx32) <| du 7 rfl (Yld.loadC0 (xs := x00) scal_26 rfl (RdH.memM (k := 0) rfl hf00) hx32 rfl) <| on 8 <| d0 rfl Try.func67 rfl (fun w hb hh => w_cmp_Less_uint64 (Mem.snap w) x31 x32 hx33) <| dd <| k30 _ _ <| cnd h rfl id Bool.eq_false_iff.2 (fun hc35 h => ?_) fun hc35 h => ?_
  ·refine sr fun _ k36 => mv rfl <| ya (Yld.nilCheckP rfl) <| ya (Yld.loadB (k := 105) scal_3 rfl rfl rfl) <| ya (Yld.addC (m := (0 : Int)) (n := (1 : Int)) (z := (1 : Int)) rfl rfl (ckl (by decide) (by decide))) <| ya (Yld.nilCheckP rfl) <| WL.eff0 (Eff0.storeB 105 siz_3 rfl rfl rfl rfl (Nat.le_of_ble_eq_true rfl)) <| dn <| k36 _ _ <| sr fun _ k37 => mv rfl <| mv rfl <| asn rfl <| asn rfl <| dn <| k37 _ _ <| re <| tr <| Ret.go (ResIs.two rfl rfl rfl) <| mv rfl <| ya (Yld.extract rfl rfl) <| ya (Yld.extract rfl rfl) <| asn rfl <| asn rfl <| dn <| k27 _ _ <| sr fun _ k38 => mv rfl <| mv rfl <| mv rfl <| mv rfl <| WL.inl (by decide) Try.func78 nm_78 rfl rfl (Tri.intro (N := 28) Try.func78 rfl rfl (Nat.le_of_ble_eq_true rfl) ?_)
   refine sr fun _ k39 => asn rfl <| asn rfl <| dn <| k39 _ _ <| sq fun _ k40 => sd [(0, _), (105, _)] mixed fun _ k41 => ?_
   obtain ⟨x42, hx42, h⟩ := bnd h
   obtain ⟨x43, hx43, h⟩ := bnd h
   obtain ⟨x44, hx44, h⟩ := bnd h
   refine dm 0 rfl rfl <| dm 1 rfl rfl <| du 2 rfl (Yld.idxC (xs := x00) sty_63 rfl rfl (RdH.memM (k := 0) rfl hf00) hx42) <| du 3 rfl (Yld.loadC0 (xs := x00) scal_26 rfl (RdH.memM (k := 0) rfl hf00) hx42 rfl) <| dm 4 rfl rfl <| dm 5 rfl rfl <| du 6 rfl (Yld.idxC (xs := x00) sty_63 rfl rfl (RdH.memM (k := 0) rfl hf00) hx43) <| du 7 rfl (Yld.loadC0 (xs := x00) scal_26 rfl (RdH.memM (k := 0) rfl hf00) hx43 rfl) <| on 8 <| d0 rfl Try.func67 rfl (fun w hb hh => w_cmp_Less_uint64 (Mem.snap w) x42 x43 hx44) <| dd <| k41 _ _ <| cnd h rfl id Bool.eq_false_iff.2 (fun hc46 h => ?_) fun hc46 h => ?_
   ·refine sr fun _ k47 => mv rfl <| ya (Yld.nilCheckP rfl) <| ya (Yld.loadB (k := 105) scal_3 rfl rfl rfl) <| ya (Yld.addC (m := (1 : Int)) (n := (1 : Int)) (z := (2 : Int)) rfl rfl (ckl (by decide) (by decide))) <| ya (Yld.nilCheckP rfl) <| WL.eff0 (Eff0.storeB 105 siz_3 rfl rfl rfl rfl (Nat.le_of_ble_eq_true rfl)) <| dn <| k47 _ _ <| sr fun _ k48 => mv rfl <| mv rfl <| asn rfl <| asn rfl <| dn <| k48 _ _ <| re <| tr <| Ret.go (ResIs.two rfl rfl rfl) <| mv rfl <| ya (Yld.extract rfl rfl) <| ya (Yld.extract rfl rfl) <| asn rfl <| asn rfl <| dn <| k38 _ _ <| sr fun _ k49 => mv rfl <| mv rfl <| mv rfl <| mv rfl <| WL.inl (by decide) Try.func78 nm_78 rfl rfl (Tri.intro (N := 28) Try.func78 rfl rfl (Nat.le_of_ble_eq_true rfl) ?_)
    refine sr fun _ k50 => asn rfl <| asn rfl <| dn <| k50 _ _ <| sq fun _ k51 => sd [(0, _), (105, _)] mixed fun _ k52 => ?_
    obtain ⟨x53, hx53, h⟩ := bnd h
    obtain ⟨x54, hx54, h⟩ := bnd h
    obtain ⟨x55, hx55, h⟩ := bnd h
    refine dm 0 rfl rfl <| dm 1 rfl rfl <| du 2 rfl (Yld.idxC (xs := x00) sty_63 rfl rfl (RdH.memM (k := 0) rfl hf00) hx53) <| du 3 rfl (Yld.loadC0 (xs := x00) scal_26 rfl (RdH.memM (k := 0) rfl hf00) hx53 rfl) <| dm 4 rfl rfl <| dm 5 rfl rfl <| du 6 rfl (Yld.idxC (xs := x00) sty_63 rfl rfl (RdH.memM (k := 0) rfl hf00) hx54) <| du 7 rfl (Yld.loadC0 (xs := x00) scal_26 rfl (RdH.memM (k := 0) rfl hf00) hx54 rfl) <| on 8 <| d0 rfl Try.func67 rfl (fun w hb hh => w_cmp_Less_uint64 (Mem.snap w) x53 x54 hx55) <| dd <| k52 _ _ <| cnd h rfl id Bool.eq_false_iff.2 (fun hc57 h => ?_) fun hc57 h => ?_
    ·refine sr fun _ k58 => mv rfl <| ya (Yld.nilCheckP rfl) <| ya (Yld.loadB (k := 105) scal_3 rfl rfl rfl) <| ya (Yld.addC (m := (2 : Int)) (n := (1 : Int)) (z := (3 : Int)) rfl rfl (ckl (by decide) (by decide))) <| ya (Yld.nilCheckP rfl) <| WL.eff0 (Eff0.storeB 105 siz_3 rfl rfl rfl rfl (Nat.le_of_ble_eq_true rfl)) <| dn <| k58 _ _ <| sr fun _ k59 => mv rfl <| mv rfl <| asn rfl <| asn rfl <| dn <| k59 _ _ <| re <| tr <| Ret.go (ResIs.two rfl rfl rfl) <| mv rfl <| ya (Yld.extract rfl rfl) <| ya (Yld.extract rfl rfl) <| asn rfl <| asn rfl <| dn <| k49 _ _ <| sr fun _ k60 => mv rfl <| asn rfl <| dn <| k60 _ _ <| re <| Ret.go (ResIs.one rfl rfl) <| asn rfl <| dn <| k25 _ _ <| tn <| k18 _ _ <| sr fun _ k61 => ya (Yld.loadB (k := 105) scal_3 rfl rfl rfl) <| dn <| k61 _ _ <| bl <| sr fun _ k62 => ya (Yld.eqlI rfl rfl) <| asn rfl <| dn <| k62 _ _ ?_
     have hc63 : ¬ ((3 : Int) = (0 : Int)) := by decide
     refine WC.condFe rfl (beq_eq_false_iff_ne.2 hc63) <| sr fun _ k64 => ya (Yld.eqlI rfl rfl) <| asn rfl <| dn <| k64 _ _ ?_
     have hc65 : ¬ ((3 : Int) = (12 : Int)) := by decide
     refine WC.condFe rfl (beq_eq_false_iff_ne.2 hc65) <| sr fun _ k66 => mv rfl <| asn rfl <| asn rfl <| dn <| k66 _ _ <| re <| br ?_
     injection h with h; subst h
     exact rt0 (ResIs.two rfl rfl rfl)
    refine ss <| k51 _ _ <| sr fun _ k67 => mv rfl <| mv rfl <| asn rfl <| asn rfl <| dn <| k67 _ _ <| re <| Ret.go (ResIs.two rfl rfl rfl) <| mv rfl <| ya (Yld.extract rfl rfl) <| ya (Yld.extract rfl rfl) <| asn rfl <| asn rfl <| dn <| k49 _ _ <| sr fun _ k68 => mv rfl <| asn rfl <| dn <| k68 _ _ <| re <| Ret.go (ResIs.one rfl rfl) <| asn rfl <| dn <| k25 _ _ <| tn <| k18 _ _ <| sr fun _ k69 => ya (Yld.loadB (k := 105) scal_3 rfl rfl rfl) <| dn <| k69 _ _ <| bl <| sr fun _ k70 => ya (Yld.eqlI rfl rfl) <| asn rfl <| dn <| k70 _ _ ?_
    have hc71 : ¬ ((2 : Int) = (0 : Int)) := by decide
    refine WC.condFe rfl (beq_eq_false_iff_ne.2 hc71) <| sr fun _ k72 => ya (Yld.eqlI rfl rfl) <| asn rfl <| dn <| k72 _ _ ?_
    have hc73 : ¬ ((2 : Int) = (12 : Int)) := by decide
    refine WC.condFe rfl (beq_eq_false_iff_ne.2 hc73) <| sr fun _ k74 => mv rfl <| asn rfl <| asn rfl <| dn <| k74 _ _ <| re <| br ?_
    injection h with h; subst h
    exact rt0 (ResIs.two rfl rfl rfl)
   refine ss <| k40 _ _ <| sr fun _ k75 => mv rfl <| mv rfl <| asn rfl <| asn rfl <| dn <| k75 _ _ <| re <| Ret.go (ResIs.two rfl rfl rfl) <| mv rfl <| ya (Yld.extract rfl rfl) <| ya (Yld.extract rfl rfl) <| asn rfl <| asn rfl <| dn <| k38 _ _ <| sr fun _ k76 => mv rfl <| mv rfl <| mv rfl <| mv rfl <| WL.inl (by decide) Try.func78 nm_78 rfl rfl (Tri.intro (N := 28) Try.func78 rfl rfl (Nat.le_of_ble_eq_true rfl) ?_)
   refine sr fun _ k77 => asn rfl <| asn rfl <| dn <| k77 _ _ <| sq fun _ k78 => sd [(0, _), (105, _)] mixed fun _ k79 => ?_
   obtain ⟨x80, hx80, h⟩ := bnd h
   obtain ⟨x81, hx81, h⟩ := bnd h
   obtain ⟨x82, hx82, h⟩ := bnd h
   refine dm 0 rfl rfl <| dm 1 rfl rfl <| du 2 rfl (Yld.idxC (xs := x00) sty_63 rfl rfl (RdH.memM (k := 0) rfl hf00) hx80) <| du 3 rfl (Yld.loadC0 (xs := x00) scal_26 rfl (RdH.memM (k := 0) rfl hf00) hx80 rfl) <| dm 4 rfl rfl <| dm 5 rfl rfl <| du 6 rfl (Yld.idxC (xs := x00) sty_63 rfl rfl (RdH.memM (k := 0) rfl hf00) hx81) <| du 7 rfl (Yld.loadC0 (xs := x00) scal_26 rfl (RdH.memM (k := 0) rfl hf00) hx81 rfl) <| on 8 <| d0 rfl Try.func67 rfl (fun w hb hh => w_cmp_Less_uint64 (Mem.snap w) x80 x81 hx82) <| dd <| k79 _ _ <| cnd h rfl id Bool.eq_false_iff.2 (fun hc84 h => ?_) fun hc84 h => ?_
   ·refine sr fun _ k85 => mv rfl <| ya (Yld.nilCheckP rfl) <| ya (Yld.loadB (k := 105) scal_3 rfl rfl rfl) <| ya (Yld.addC (m := (1 : Int)) (n := (1 : Int)) (z := (2 : Int)) rfl rfl (ckl (by decide) (by decide))) <| ya (Yld.nilCheckP rfl) <| WL.eff0 (Eff0.storeB 105 siz_3 rfl rfl rfl rfl (Nat.le_of_ble_eq_true rfl)) <| dn <| k85 _ _ <| sr fun _ k86 => mv rfl <| mv rfl <| asn rfl <| asn rfl <| dn <| k86 _ _ <| re <| tr <| Ret.go (ResIs.two rfl rfl rfl) <| mv rfl <| ya (Yld.extract rfl rfl) <| ya (Yld.extract rfl rfl) <| asn rfl <| asn rfl <| dn <| k76 _ _ <| sr fun _ k87 => mv rfl <| asn rfl <| dn <| k87 _ _ <| re <| Ret.go (ResIs.one rfl rfl) <| asn rfl <| dn <| k25 _ _ <| tn <| k18 _ _ <| sr fun _ k88 => ya (Yld.loadB (k := 105) scal_3 rfl rfl rfl) <| dn <| k88 _ _ <| bl <| sr fun _ k89 => ya (Yld.eqlI rfl rfl) <| asn rfl <| dn <| k89 _ _ ?_
    have hc90 : ¬ ((2 : Int) = (0 : Int)) := by decide
    refine WC.condFe rfl (beq_eq_false_iff_ne.2 hc90) <| sr fun _ k91 => ya (Yld.eqlI rfl rfl) <| asn rfl <| dn <| k91 _ _ ?_
    have hc92 : ¬ ((2 : Int) = (12 : Int)) := by decide
    refine WC.condFe rfl (beq_eq_false_iff_ne.2 hc92) <| sr fun _ k93 => mv rfl <| asn rfl <| asn rfl <| dn <| k93 _ _ <| re <| br ?_
    injection h with h; subst h
    exact rt0 (ResIs.two rfl rfl rfl)
   refine ss <| k78 _ _ <| sr fun _ k94 => mv rfl <| mv rfl <| asn rfl <| asn rfl <| dn <| k94 _ _ <| re <| Ret.go (ResIs.two rfl rfl rfl) <| mv rfl <| ya (Yld.extract rfl rfl) <| ya (Yld.extract rfl rfl) <| asn rfl <| asn rfl <| dn <| k76 _ _ <| sr fun _ k95 => mv rfl <| asn rfl <| dn <| k95 _ _ <| re <| Ret.go (ResIs.one rfl rfl) <| asn rfl <| dn <| k25 _ _ <| tn <| k18 _ _ <| sr fun _ k96 => ya (Yld.loadB (k := 105) scal_3 rfl rfl rfl) <| dn <| k96 _ _ <| bl <| sr fun _ k97 => ya (Yld.eqlI rfl rfl) <| asn rfl <| dn <| k97 _ _ ?_
   have hc98 : ¬ ((1 : Int) = (0 : Int)) := by decide
   refine WC.condFe rfl (beq_eq_false_iff_ne.2 hc98) <| sr fun _ k99 => ya (Yld.eqlI rfl rfl) <| asn rfl <| dn <| k99 _ _ ?_
   have hc100 : ¬ ((1 : Int) = (12 : Int)) := by decide
   refine WC.condFe rfl (beq_eq_false_iff_ne.2 hc100) <| sr fun _ k101 => mv rfl <| asn rfl <| asn rfl <| dn <| k101 _ _ <| re <| br ?_
   injection h with h; subst h
   exact rt0 (ResIs.two rfl rfl rfl)
  refine ss <| k29 _ _ <| sr fun _ k102 => mv rfl <| mv rfl <| asn rfl <| asn rfl <| dn <| k102 _ _ <| re <| Ret.go (ResIs.two rfl rfl rfl) <| mv rfl <| ya (Yld.extract rfl rfl) <| ya (Yld.extract rfl rfl) <| asn rfl <| asn rfl <| dn <| k27 _ _ <| sr fun _ k103 => mv rfl <| mv rfl <| mv rfl <| mv rfl <| WL.inl (by decide) Try.func78 nm_78 rfl rfl (Tri.intro (N := 28) Try.func78 rfl rfl (Nat.le_of_ble_eq_true rfl) ?_)
  refine sr fun _ k104 => asn rfl <| asn rfl <| dn <| k104 _ _ <| sq fun _ k105 => sd [(0, _), (105, _)] mixed fun _ k106 => ?_
  obtain ⟨x107, hx107, h⟩ := bnd h
  obtain ⟨x108, hx108, h⟩ := bnd h
  obtain ⟨x109, hx109, h⟩ := bnd h
  refine dm 0 rfl rfl <| dm 1 rfl rfl <| du 2 rfl (Yld.idxC (xs := x00) sty_63 rfl rfl (RdH.memM (k := 0) rfl hf00) hx107) <| du 3 rfl (Yld.loadC0 (xs := x00) scal_26 rfl (RdH.memM (k := 0) rfl hf00) hx107 rfl) <| dm 4 rfl rfl <| dm 5 rfl rfl <| du 6 rfl (Yld.idxC (xs := x00) sty_63 rfl rfl (RdH.memM (k := 0) rfl hf00) hx108) <| du 7 rfl (Yld.loadC0 (xs := x00) scal_26 rfl (RdH.memM (k := 0) rfl hf00) hx108 rfl) <| on 8 <| d0 rfl Try.func67 rfl (fun w hb hh => w_cmp_Less_uint64 (Mem.snap w) x107 x108 hx109) <| dd <| k106 _ _ <| cnd h rfl id Bool.eq_false_iff.2 (fun hc111 h => ?_) fun hc111 h => ?_
  ·refine sr fun _ k112 => mv rfl <| ya (Yld.nilCheckP rfl) <| ya (Yld.loadB (k := 105) scal_3 rfl rfl rfl) <| ya (Yld.addC (m := (0 : Int)) (n := (1 : Int)) (z := (1 : Int)) rfl rfl (ckl (by decide) (by decide))) <| ya (Yld.nilCheckP rfl) <| WL.eff0 (Eff0.storeB 105 siz_3 rfl rfl rfl rfl (Nat.le_of_ble_eq_true rfl)) <| dn <| k112 _ _ <| sr fun _ k113 => mv rfl <| mv rfl <| asn rfl <| asn rfl <| dn <| k113 _ _ <| re <| tr <| Ret.go (ResIs.two rfl rfl rfl) <| mv rfl <| ya (Yld.extract rfl rfl) <| ya (Yld.extract rfl rfl) <| asn rfl <| asn rfl <| dn <| k103 _ _ <| sr fun _ k114 => mv rfl <| mv rfl <| mv rfl <| mv rfl <| WL.inl (by decide) Try.func78 nm_78 rfl rfl (Tri.intro (N := 28) Try.func78 rfl rfl (Nat.le_of_ble_eq_true rfl) ?_)
   refine sr fun _ k115 => asn rfl <| asn rfl <| dn <| k115 _ _ <| sq fun _ k116 => sd [(0, _), (105, _)] mixed fun _ k117 => ?_
   obtain ⟨x118, hx118, h⟩ := bnd h
   obtain ⟨x119, hx119, h⟩ := bnd h
   obtain ⟨x120, hx120, h⟩ := bnd h
   refine dm 0 rfl rfl <| dm 1 rfl rfl <| du 2 rfl (Yld.idxC (xs := x00) sty_63 rfl rfl (RdH.memM (k := 0) rfl hf00) hx118) <| du 3 rfl (Yld.loadC0 (xs := x00) scal_26 rfl (RdH.memM (k := 0) rfl hf00) hx118 rfl) <| dm 4 rfl rfl <| dm 5 rfl rfl <| du 6 rfl (Yld.idxC (xs := x00) sty_63 rfl rfl (RdH.memM (k := 0) rfl hf00) hx119) <| du 7 rfl (Yld.loadC0 (xs := x00) scal_26 rfl (RdH.memM (k := 0) rfl hf00) hx119 rfl) <| on 8 <| d0 rfl Try.func67 rfl (fun w hb hh => w_cmp_Less_uint64 (Mem.snap w) x118 x119 hx120) <| dd <| k117 _ _ <| cnd h rfl id Bool.eq_false_iff.2 (fun hc122 h => ?_) fun hc122 h => ?_
   ·refine sr fun _ k123 => mv rfl <| ya (Yld.nilCheckP rfl) <| ya (Yld.loadB (k := 105) scal_3 rfl rfl rfl) <| ya (Yld.addC (m := (1 : Int)) (n := (1 : Int)) (z := (2 : Int)) rfl rfl (ckl (by decide) (by decide))) <| ya (Yld.nilCheckP rfl) <| WL.eff0 (Eff0.storeB 105 siz_3 rfl rfl rfl rfl (Nat.le_of_ble_eq_true rfl)) <| dn <| k123 _ _ <| sr fun _ k124 => mv rfl <| mv rfl <| asn rfl <| asn rfl <| dn <| k124 _ _ <| re <| tr <| Ret.go (ResIs.two rfl rfl rfl) <| mv rfl <| ya (Yld.extract rfl rfl) <| ya (Yld.extract rfl rfl) <| asn rfl <| asn rfl <| dn <| k114 _ _ <| sr fun _ k125 => mv rfl <| asn rfl <| dn <| k125 _ _ <| re <| Ret.go (ResIs.one rfl rfl) <| asn rfl <| dn <| k25 _ _ <| tn <| k18 _ _ <| sr fun _ k126 => ya (Yld.loadB (k := 105) scal_3 rfl rfl rfl) <| dn <| k126 _ _ <| bl <| sr fun _ k127 => ya (Yld.eqlI rfl rfl) <| asn rfl <| dn <| k127 _ _ ?_
    have hc128 : ¬ ((2 : Int) = (0 : Int)) := by decide
    refine WC.condFe rfl (beq_eq_false_iff_ne.2 hc128) <| sr fun _ k129 => ya (Yld.eqlI rfl rfl) <| asn rfl <| dn <| k129 _ _ ?_
    have hc130 : ¬ ((2 : Int) = (12 : Int)) := by decide
    refine WC.condFe rfl (beq_eq_false_iff_ne.2 hc130) <| sr fun _ k131 => mv rfl <| asn rfl <| asn rfl <| dn <| k131 _ _ <| re <| br ?_
    injection h with h; subst h
    exact rt0 (ResIs.two rfl rfl rfl)
   refine ss <| k116 _ _ <| sr fun _ k132 => mv rfl <| mv rfl <| asn rfl <| asn rfl <| dn <| k132 _ _ <| re <| Ret.go (ResIs.two rfl rfl rfl) <| mv rfl <| ya (Yld.extract rfl rfl) <| ya (Yld.extract rfl rfl) <| asn rfl <| asn rfl <| dn <| k114 _ _ <| sr fun _ k133 => mv rfl <| asn rfl <| dn <| k133 _ _ <| re <| Ret.go (ResIs.one rfl rfl) <| asn rfl <| dn <| k25 _ _ <| tn <| k18 _ _ <| sr fun _ k134 => ya (Yld.loadB (k := 105) scal_3 rfl rfl rfl) <| dn <| k134 _ _ <| bl <| sr fun _ k135 => ya (Yld.eqlI rfl rfl) <| asn rfl <| dn <| k135 _ _ ?_
   have hc136 : ¬ ((1 : Int) = (0 : Int)) := by decide
   refine WC.condFe rfl (beq_eq_false_iff_ne.2 hc136) <| sr fun _ k137 => ya (Yld.eqlI rfl rfl) <| asn rfl <| dn <| k137 _ _ ?_
   have hc138 : ¬ ((1 : Int) = (12 : Int)) := by decide
   refine WC.condFe rfl (beq_eq_false_iff_ne.2 hc138) <| sr fun _ k139 => mv rfl <| asn rfl <| asn rfl <| dn <| k139 _ _ <| re <| br ?_
   injection h with h; subst h
   exact rt0 (ResIs.two rfl rfl rfl)
  refine ss <| k105 _ _ <| sr fun _ k140 => mv rfl <| mv rfl <| asn rfl <| asn rfl <| dn <| k140 _ _ <| re <| Ret.go (ResIs.two rfl rfl rfl) <| mv rfl <| ya (Yld.extract rfl rfl) <| ya (Yld.extract rfl rfl) <| asn rfl <| asn rfl <| dn <| k103 _ _ <| sr fun _ k141 => mv rfl <| mv rfl <| mv rfl <| mv rfl <| WL.inl (by decide) Try.func78 nm_78 rfl rfl (Tri.intro (N := 28) Try.func78 rfl rfl (Nat.le_of_ble_eq_true rfl) ?_)
  refine sr fun _ k142 => asn rfl <| asn rfl <| dn <| k142 _ _ <| sq fun _ k143 => sd [(0, _), (105, _)] mixed fun _ k144 => ?_
  obtain ⟨x145, hx145, h⟩ := bnd h
  obtain ⟨x146, hx146, h⟩ := bnd h
  obtain ⟨x147, hx147, h⟩ := bnd h
  refine dm 0 rfl rfl <| dm 1 rfl rfl <| du 2 rfl (Yld.idxC (xs := x00) sty_63 rfl rfl (RdH.memM (k := 0) rfl hf00) hx145) <| du 3 rfl (Yld.loadC0 (xs := x00) scal_26 rfl (RdH.memM (k := 0) rfl hf00) hx145 rfl) <| dm 4 rfl rfl <| dm 5 rfl rfl <| du 6 rfl (Yld.idxC (xs := x00) sty_63 rfl rfl (RdH.memM (k := 0) rfl hf00) hx146) <| du 7 rfl (Yld.loadC0 (xs := x00) scal_26 rfl (RdH.memM (k := 0) rfl hf00) hx146 rfl) <| on 8 <| d0 rfl Try.func67 rfl (fun w hb hh => w_cmp_Less_uint64 (Mem.snap w) x145 x146 hx147) <| dd <| k144 _ _ <| cnd h rfl id Bool.eq_false_iff.2 (fun hc149 h => ?_) fun hc149 h => ?_
  ·refine sr fun _ k150 => mv rfl <| ya (Yld.nilCheckP rfl) <| ya (Yld.loadB (k := 105) scal_3 rfl rfl rfl) <| ya (Yld.addC (m := (0 : Int)) (n := (1 : Int)) (z := (1 : Int)) rfl rfl (ckl (by decide) (by decide))) <| ya (Yld.nilCheckP rfl) <| WL.eff0 (Eff0.storeB 105 siz_3 rfl rfl rfl rfl (Nat.le_of_ble_eq_true rfl)) <| dn <| k150 _ _ <| sr fun _ k151 => mv rfl <| mv rfl <| asn rfl <| asn rfl <| dn <| k151 _ _ <| re <| tr <| Ret.go (ResIs.two rfl rfl rfl) <| mv rfl <| ya (Yld.extract rfl rfl) <| ya (Yld.extract rfl rfl) <| asn rfl <| asn rfl <| dn <| k141 _ _ <| sr fun _ k152 => mv rfl <| asn rfl <| dn <| k152 _ _ <| re <| Ret.go (ResIs.one rfl rfl) <| asn rfl <| dn <| k25 _ _ <| tn <| k18 _ _ <| sr fun _ k153 => ya (Yld.loadB (k := 105) scal_3 rfl rfl rfl) <| dn <| k153 _ _ <| bl <| sr fun _ k154 => ya (Yld.eqlI rfl rfl) <| asn rfl <| dn <| k154 _ _ ?_
   have hc155 : ¬ ((1 : Int) = (0 : Int)) := by decide
   refine WC.condFe rfl (beq_eq_false_iff_ne.2 hc155) <| sr fun _ k156 => ya (Yld.eqlI rfl rfl) <| asn rfl <| dn <| k156 _ _ ?_
   have hc157 : ¬ ((1 : Int) = (12 : Int)) := by decide
   refine WC.condFe rfl (beq_eq_false_iff_ne.2 hc157) <| sr fun _ k158 => mv rfl <| asn rfl <| asn rfl <| dn <| k158 _ _ <| re <| br ?_
   injection h with h; subst h
   exact rt0 (ResIs.two rfl rfl rfl)
  refine ss <| k143 _ _ <| sr fun _ k159 => mv rfl <| mv rfl <| asn rfl <| asn rfl <| dn <| k159 _ _ <| re <| Ret.go (ResIs.two rfl rfl rfl) <| mv rfl <| ya (Yld.extract rfl rfl) <| ya (Yld.extract rfl rfl) <| asn rfl <| asn rfl <| dn <| k141 _ _ <| sr fun _ k160 => mv rfl <| asn rfl <| dn <| k160 _ _ <| re <| Ret.go (ResIs.one rfl rfl) <| asn rfl <| dn <| k25 _ _ <| tn <| k18 _ _ <| sr fun _ k161 => ya (Yld.loadB (k := 105) scal_3 rfl rfl rfl) <| dn <| k161 _ _ <| bl <| sr fun _ k162 => ya (Yld.eqlI rfl rfl) <| asn rfl <| dn <| k162 _ _ ?_
  have hc163 : (0 : Int) = (0 : Int) := by decide
  refine WC.condTe rfl (beq_iff_eq.2 hc163) <| sr fun _ k164 => mv rfl <| asn rfl <| asn rfl <| dn <| k164 _ _ <| re <| br ?_
  injection h with h; subst h
  exact rt0 (ResIs.two rfl rfl rfl)
 refine ss <| k18 _ _ <| sr fun _ k165 => ya (Yld.loadB (k := 105) scal_3 rfl rfl rfl) <| dn <| k165 _ _ <| bl <| sr fun _ k166 => ya (Yld.eqlI rfl rfl) <| asn rfl <| dn <| k166 _ _ ?_
 have hc167 : (0 : Int) = (0 : Int) := by decide
 refine WC.condTe rfl (beq_iff_eq.2 hc167) <| sr fun _ k168 => mv rfl <| asn rfl <| asn rfl <| dn <| k168 _ _ <| re <| br ?_
 injection h with h; subst h
 exact rt0 (ResIs.two rfl rfl rfl)
theorem w_slices_pdqsortOrdered_uint64F (rc0 : (List (BitVec 64)) -> Int -> Int -> Int -> Option (List (BitVec 64))) (hrc0 : ∀ (A : Option Addr) (n c : Nat) (x0c : List (BitVec 64)) (x01 : Int) (x02 : Int) (x03 : Int) {res : List (BitVec 64)}, rc0 x0c x01 x02 x03 = some res -> Mut Try.prog 59 #[.slice A n c, I64 x01, I64 x02, I64 x03] 26 (Lay.sz (BitVec 64)) A n c (cel x0c) fun r ds => r = .tuple #[] /\ ds = cel res) (A : Option Addr) (n c : Nat) (x0c : List (BitVec 64)) (x01 x02 x03 : Int) {res : List (BitVec 64)} (h : m_slices_pdqsortOrdered_uint64F rc0 x0c x01 x02 x03 = some res) :
  Mut Try.prog 59 #[.slice A n c, I64 x01, I64 x02, I64 x03] 26 (Lay.sz (BitVec 64)) A n c (cel x0c) fun r ds => r = .tuple #[] /\ ds = cel res := by
 refine Mut.intro (N := 134) Try.func59 rfl rfl (Nat.le_of_ble_eq_true rfl) fun w0 e0 => ?_
 unfold m_slices_pdqsortOrdered_uint64F at h
 refine sr fun _ k1 => asn rfl <| dn <| k1 _ _ <| sr fun _ k2 => asn rfl <| dn <| k2 _ _ <| bl <| lp (τ := (List (BitVec 64)) × Int × Int × Int × Bool × Bool) (fun ⟨x3, x4, x5, x6, x7, x8⟩ => [(0, .slice A n c), (1, I64 x4), (2, I64 x5), (3, I64 x6), (8, .bool x7), (9, .bool x8)]) (fun ⟨x3, x4, x5, x6, x7, x8⟩ => [(1, e0), (2, .own 26 (Lay.sz (BitVec 64)) A n c (cel x3))]) (fun q9 ⟨x3, x4, x5, x6, x7, x8⟩ => m_slices_pdqsortOrdered_uint64_l0 rc0 q9 x3 x4 x5 x6 x7 x8 = some res) ⟨x0c, x01, x02, x03, true, true⟩ ?_ (by simp [m_slices_pdqsortOrdered_uint64_l0]) ?_
 ·exact h
 rintro q9 ⟨x3, x4, x5, x6, x7, x8⟩ h _ k10
 unfold m_slices_pdqsortOrdered_uint64_l0 at h
 refine bl <| sr fun _ k11 => ?_
 obtain ⟨x12, hx12, h⟩ := bnd h
 refine mv rfl <| mv rfl <| ya (Yld.subC rfl rfl hx12) <| asn rfl <| dn <| k11 _ _ <| sq fun _ k13 => sr fun _ k14 => mv rfl <| ya (Yld.leq rfl rfl) <| dn <| k14 _ _ <| cnd h rfl decide_eq_true decide_eq_false (fun hc15 h => ?_) fun hc15 h => ?_
 ·refine sr fun _ k16 => ?_
  obtain ⟨x17, hx17, h⟩ := bnd h
  refine mv rfl <| mv rfl <| mv rfl <| WL.eff (by decide) (Eff.callMut 2 rfl Try.func61 nm_61 rfl rfl rfl (w_slices_insertionSortOrdered_uint64 A n c x3 x4 x5 hx17)) ?_
  rintro _ _ ⟨_, ⟨rfl, rfl⟩, rfl⟩
  refine dn <| k16 _ _ <| re <| tr <| br <| tr <| br ?_
  injection h with h; subst h
  exact Ret.mut (ResIs.zero rfl) (sc (sc sn)) ⟨rfl, rfl⟩
 refine ss <| k13 _ _ <| sq fun _ k18 => sr fun _ k19 => mv rfl <| ya (Yld.eqlI rfl rfl) <| dn <| k19 _ _ <| cnd h rfl beq_iff_eq.2 beq_eq_false_iff_ne.2 (fun hc20 h => ?_) fun hc20 h => ?_
 ·refine sr fun _ k21 => ?_
  obtain ⟨x22, hx22, h⟩ := bnd h
  refine mv rfl <| mv rfl <| mv rfl <| WL.eff (by decide) (Eff.callMut 2 rfl Try.func62 nm_62 rfl rfl rfl (w_slices_heapSortOrdered_uint64 A n c x3 x4 x5 hx22)) ?_
  rintro _ _ ⟨_, ⟨rfl, rfl⟩, rfl⟩
  refine dn <| k21 _ _ <| re <| tr <| br <| tr <| br ?_
  injection h with h; subst h
  exact Ret.mut (ResIs.zero rfl) (sc (sc sn)) ⟨rfl, rfl⟩
 refine ss <| k18 _ _ <| ct (σ := (List (BitVec 64)) × Int) (fun ⟨x23, x24⟩ => [(0, .slice A n c), (1, I64 x4), (2, I64 x5), (3, I64 x24), (8, .bool x7), (9, .bool x8), (10, I64 x12)]) (fun ⟨x23, x24⟩ => [(1, e0), (2, .own 26 (Lay.sz (BitVec 64)) A n c (cel x23))]) (fun ⟨x23, x24⟩ => m_slices_pdqsortOrdered_uint64_j1 x4 x5 x7 x8 x12 (m_slices_pdqsortOrdered_uint64_l0 rc0 q9) rc0 x23 x24 = some res) (fun _ k25 => ?_) ?_
 ·refine sr fun _ k26 => mv rfl <| ya (Yld.notB rfl) <| dn <| k26 _ _ <| cnn h rfl not_f (fun q => not_t (Bool.eq_false_iff.2 q)) (fun hc27 h => ?_) fun hc27 h => ?_
  ·exact WC.skip <| tn <| kw (k25 ⟨x3, x6⟩ h)
  refine sr fun _ k28 => ?_
  obtain ⟨x29, hx29, h⟩ := bnd h
  refine mv rfl <| mv rfl <| mv rfl <| WL.eff (by decide) (Eff.callMut 2 rfl Try.func63 nm_63 rfl rfl rfl (w_slices_breakPatternsOrdered_uint64 A n c x3 x4 x5 hx29)) ?_
  rintro _ _ ⟨_, ⟨rfl, rfl⟩, rfl⟩
  refine dn <| k28 _ _ <| rg fun _ k30 => ?_
  obtain ⟨x31, hx31, h⟩ := bnd h
  exact mv rfl <| ya (Yld.subC rfl rfl hx31) <| asn rfl <| dn <| k30 _ _ <| tn <| kw (k25 ⟨x29, x31⟩ h)
 rintro ⟨x23, x24⟩ h
 unfold m_slices_pdqsortOrdered_uint64_j1 at h
 refine sr fun _ k32 => ?_
 obtain ⟨x33, hx33, h⟩ := bnd h
 refine mv rfl <| mv rfl <| mv rfl <| c0 Try.func64 rfl (fun w hb hh => w_slices_choosePivotOrdered_uint64 (Mem.snap w) A n c _ (RdH.sn (RdH.own (k := 2) rfl) w hb hh) x4 x5 hx33) <| mv rfl <| ya (Yld.extract rfl rfl) <| ya (Yld.extract rfl rfl) <| asn rfl <| asn rfl <| dn <| k32 _ _ <| ct (σ := (List (BitVec 64)) × Int × Int) (fun ⟨x35, x36, x37⟩ => [(0, .slice A n c), (1, I64 x4), (2, I64 x5), (3, I64 x24), (8, .bool x7), (9, .bool x8), (10, I64 x12), (11, I64 x36), (12, I64 x37)]) (fun ⟨x35, x36, x37⟩ => [(1, e0), (2, .own 26 (Lay.sz (BitVec 64)) A n c (cel x35))]) (fun ⟨x35, x36, x37⟩ => m_slices_pdqsortOrdered_uint64_j2 x4 x5 x7 x8 x12 x24 (m_slices_pdqsortOrdered_uint64_l0 rc0 q9) rc0 x35 x36 x37 = some res) (fun _ k38 => ?_) ?_
 ·refine sr fun _ k39 => mv rfl <| ya (Yld.eqlI rfl rfl) <| dn <| k39 _ _ <| cnd h rfl beq_iff_eq.2 beq_eq_false_iff_ne.2 (fun hc40 h => ?_) fun hc40 h => ?_
  ·refine sr fun _ k41 => ?_
   obtain ⟨x42, hx42, h⟩ := bnd h
   refine mv rfl <| mv rfl <| mv rfl <| WL.eff (by decide) (Eff.callMut 2 rfl Try.func65 nm_65 rfl rfl rfl (w_slices_reverseRangeOrdered_uint64 A n c x23 x4 x5 hx42)) ?_
   rintro _ _ ⟨_, ⟨rfl, rfl⟩, rfl⟩
   refine dn <| k41 _ _ <| sr fun _ k43 => ?_
   obtain ⟨x44, hx44, h⟩ := bnd h
   obtain ⟨x45, hx45, h⟩ := bnd h
   obtain ⟨x46, hx46, h⟩ := bnd h
   exact mv rfl <| ya (Yld.subC rfl rfl hx44) <| mv rfl <| mv rfl <| ya (Yld.subC rfl rfl hx45) <| ya (Yld.subC rfl rfl hx46) <| asn rfl <| dn <| k43 _ _ <| rg fun _ k47 => asn rfl <| dn <| k47 _ _ <| tn <| kw (k38 ⟨x42, x46, (1 : Int)⟩ h)
  exact WC.skip <| tn <| kw (k38 ⟨x23, x33.1, x33.2⟩ h)
 rintro ⟨x35, x36, x37⟩ h
 unfold m_slices_pdqsortOrdered_uint64_j2 at h
 refine ct (σ := (List (BitVec 64))) (fun x48 => [(0, .slice A n c), (1, I64 x4), (2, I64 x5), (3, I64 x24), (8, .bool x7), (9, .bool x8), (10, I64 x12), (11, I64 x36)]) (fun x48 => [(1, e0), (2, .own 26 (Lay.sz (BitVec 64)) A n c (cel x48))]) (fun x48 => m_slices_pdqsortOrdered_uint64_j3 x4 x5 x7 x8 x12 x24 x36 (m_slices_pdqsortOrdered_uint64_l0 rc0 q9) rc0 x48 = some res) (fun _ k49 => ?_) ?_
 ·refine sr fun _ k50 => mv rfl <| mv rfl <| spl h id Bool.eq_false_iff.2 (fun hc51 h => ?_) fun hc51 h => ?_
  ·refine mvg rfl <| pt rfl rfl <| mv rfl <| spl h id Bool.eq_false_iff.2 (fun hc52 h => ?_) fun hc52 h => ?_
   ·refine mvg rfl <| yg (Yld.eqlI rfl rfl) <| pt rfl rfl <| dn <| k50 _ _ <| cnd h rfl beq_iff_eq.2 beq_eq_false_iff_ne.2 (fun hc53 h => ?_) fun hc53 h => ?_
    ·refine sr fun _ k54 => ?_
     obtain ⟨x55, hx55, h⟩ := bnd h
     refine mv rfl <| mv rfl <| mv rfl <| WL.eff (by decide) (Eff.callMut 2 rfl Try.func66 nm_66 rfl rfl rfl (w_slices_partialInsertionSortOrdered_uint64 A n c x35 x4 x5 hx55)) ?_
     rintro _ _ ⟨_, ⟨rfl, rfl⟩, rfl⟩
     refine dn <| k54 _ _ <| cnd h rfl id Bool.eq_false_iff.2 (fun hc56 h => ?_) fun hc56 h => ?_
     ·refine re <| tr <| br <| tr <| br ?_
      injection h with h; subst h
      exact Ret.mut (ResIs.zero rfl) (sc (sc sn)) ⟨rfl, rfl⟩
     exact WC.skip <| tn <| kw (k49 x55.1 h)
    exact WC.skip <| tn <| kw (k49 x35 h)
   exact sk <| sk <| pf rfl rfl <| dn <| k50 _ _ <| cdF rfl <| WC.skip <| tn <| kw (k49 x35 h)
  exact sk <| pf rfl rfl <| mv rfl <| sk <| sk <| pf rfl rfl <| dn <| k50 _ _ <| cdF rfl <| WC.skip <| tn <| kw (k49 x35 h)
 rintro x48 h
 unfold m_slices_pdqsortOrdered_uint64_j3 at h
 refine ct (σ := Unit) (fun _ => [(0, .slice A n c), (1, I64 x4), (2, I64 x5), (3, I64 x24), (10, I64 x12), (11, I64 x36)]) (fun _ => [(1, e0), (2, .own 26 (Lay.sz (BitVec 64)) A n c (cel x48))]) (fun _ => m_slices_pdqsortOrdered_uint64_j4 x4 x5 x12 x24 x36 x48 (m_slices_pdqsortOrdered_uint64_l0 rc0 q9) rc0 = some res) (fun _ k57 => ?_) ?_
 ·refine sd [(1, _), (2, _)] mixed fun _ k58 => ?_
  by_cases hc59 : (0 : Int) < x4
  ·replace h := of_t hc59 h
   obtain ⟨x60, hx60, h⟩ := bnd h
   obtain ⟨x61, hx61, h⟩ := bnd h
   obtain ⟨x62, hx62, h⟩ := bnd h
   obtain ⟨x63, hx63, h⟩ := bnd h
   refine dm 0 rfl rfl <| du 1 rfl (Yld.gtr rfl rfl) <| dm 2 rfl rfl <| WD.new (v' := .bool true) (congrArg Value.bool (decide_eq_true hc59)) <| dv 3 rfl (Yld.move rfl) <| dv 4 rfl (Yld.move rfl) <| dv 5 rfl (Yld.subC rfl rfl hx60) <| dv 6 rfl (Yld.idxC (xs := x48) sty_63 rfl rfl (RdH.own (k := 2) rfl) hx61) <| dv 7 rfl (Yld.loadC0 (xs := x48) scal_26 rfl (RdH.own (k := 2) rfl) hx61 rfl) <| dv 8 rfl (Yld.move rfl) <| dv 9 rfl (Yld.move rfl) <| dv 10 rfl (Yld.idxC (xs := x48) sty_63 rfl rfl (RdH.own (k := 2) rfl) hx62) <| dv 11 rfl (Yld.loadC0 (xs := x48) scal_26 rfl (RdH.own (k := 2) rfl) hx62 rfl) <| on 12 <| WS.effG rfl (by decide) rfl (Eff.callS 164 rfl Try.func67 nm_67 rfl rfl (fun w hb hh => w_cmp_Less_uint64 (Mem.snap w) x61 x62 hx63)) ?_
   rintro _ _ ⟨_, ⟨rfl, rfl⟩, rfl⟩
   refine ad ?_ (by repeat (first | exact sn | refine sc ?_))
   refine dv 13 rfl (Yld.notB rfl) <| du 14 rfl (Yld.pickT rfl rfl) <| dd <| k58 _ _ <| cnn h rfl not_f (fun q => not_t (Bool.eq_false_iff.2 q)) (fun hc65 h => ?_) fun hc65 h => ?_
   ·exact WC.skip <| tn <| kw (k57 () h)
   refine sr fun _ k66 => ?_
   obtain ⟨x67, hx67, h⟩ := bnd h
   refine mv rfl <| mv rfl <| mv rfl <| mv rfl <| WL.eff (by decide) (Eff.callMut 2 rfl Try.func68 nm_68 rfl rfl rfl (w_slices_partitionEqualOrdered_uint64 A n c x48 x4 x5 x36 hx67)) ?_
   rintro _ _ ⟨_, ⟨rfl, rfl⟩, rfl⟩
   exact asn rfl <| dn <| k66 _ _ <| sr fun _ k68 => mv rfl <| asn rfl <| dn <| k68 _ _ <| xi <| te <| bx <| tn <| kw (k10 ⟨x67.1, x67.2, x5, x24, x7, x8⟩ h)
  replace h := of_f hc59 h
  exact dm 0 rfl rfl <| du 1 rfl (Yld.gtr rfl rfl) <| dm 2 rfl rfl <| WD.new (v' := .bool false) (congrArg Value.bool (decide_eq_false hc59)) <| dw 3 rfl <| dw 4 rfl <| dw 5 rfl <| dw 6 rfl <| dw 7 rfl <| dw 8 rfl <| dw 9 rfl <| dw 10 rfl <| dw 11 rfl <| dw 12 rfl <| dw 13 rfl <| du 14 rfl (Yld.pickF rfl rfl) <| dd <| k58 _ _ <| cdF rfl <| WC.skip <| tn <| kw (k57 () h)
 rintro _ h
 unfold m_slices_pdqsortOrdered_uint64_j4 at h
 refine sr fun _ k69 => ?_
 obtain ⟨x70, hx70, h⟩ := bnd h
 refine mv rfl <| mv rfl <| mv rfl <| mv rfl <| WL.eff (by decide) (Eff.callMut 2 rfl Try.func69 nm_69 rfl rfl rfl (w_slices_partitionOrdered_uint64 A n c x48 x4 x5 x36 hx70)) ?_
 rintro _ _ ⟨_, ⟨rfl, rfl⟩, rfl⟩
 refine mv rfl <| ya (Yld.extract rfl rfl) <| ya (Yld.extract rfl rfl) <| asn rfl <| asn rfl <| dn <| k69 _ _ <| sr fun _ k71 => mv rfl <| asn rfl <| dn <| k71 _ _ <| sr fun _ k72 => ?_
 obtain ⟨x73, hx73, h⟩ := bnd h
 obtain ⟨x74, hx74, h⟩ := bnd h
 refine mv rfl <| mv rfl <| ya (Yld.subC rfl rfl hx73) <| mv rfl <| mv rfl <| ya (Yld.subC rfl rfl hx74) <| asn rfl <| asn rfl <| dn <| k72 _ _ <| sr fun _ k75 => ?_
 obtain ⟨x76, hx76, h⟩ := bnd h
 refine mv rfl <| ya (Yld.quoC rfl rfl hx76) <| asn rfl <| dn <| k75 _ _ <| sr fun _ k77 => mv rfl <| mv rfl <| ya (Yld.lss rfl rfl) <| dn <| k77 _ _ <| cnd h rfl decide_eq_true decide_eq_false (fun hc78 h => ?_) fun hc78 h => ?_
 ·refine sr fun _ k79 => mv rfl <| mv rfl <| ya (Yld.geq rfl rfl) <| asn rfl <| dn <| k79 _ _ <| sr fun _ k80 => ?_
  obtain ⟨x81, hx81, h⟩ := bnd h
  refine mv rfl <| mv rfl <| mv rfl <| mv rfl <| WL.eff (by decide) (Eff.callMut 2 rfl Try.func59 nm_59 rfl rfl rfl (hrc0 A n c x70.1 x4 x70.2.1 x24 hx81)) ?_
  rintro _ _ ⟨_, ⟨rfl, rfl⟩, rfl⟩
  refine dn <| k80 _ _ <| rg fun _ k82 => ?_
  obtain ⟨x83, hx83, h⟩ := bnd h
  exact mv rfl <| ya (Yld.addC rfl rfl hx83) <| asn rfl <| dn <| k82 _ _ <| bn <| tn <| kw (k10 ⟨x81, x83, x5, x24, (decide (x76 <= x73)), x70.2.2⟩ h)
 refine sr fun _ k84 => mv rfl <| mv rfl <| ya (Yld.geq rfl rfl) <| asn rfl <| dn <| k84 _ _ <| sr fun _ k85 => ?_
 obtain ⟨x86, hx86, h⟩ := bnd h
 obtain ⟨x87, hx87, h⟩ := bnd h
 refine mv rfl <| mv rfl <| ya (Yld.addC rfl rfl hx86) <| mv rfl <| mv rfl <| WL.eff (by decide) (Eff.callMut 2 rfl Try.func59 nm_59 rfl rfl rfl (hrc0 A n c x70.1 x86 x5 x24 hx87)) ?_
 rintro _ _ ⟨_, ⟨rfl, rfl⟩, rfl⟩
 exact dn <| k85 _ _ <| rg fun _ k88 => mv rfl <| asn rfl <| dn <| k88 _ _ <| bn <| tn <| kw (k10 ⟨x87, x4, x70.2.1, x24, (decide (x76 <= x74)), x70.2.2⟩ h)
theorem w_slices_pdqsortOrdered_uint64R (q : Nat) : ∀ (A : Option Addr) (n c : Nat) (x0c : List (BitVec 64)) (x01 : Int) (x02 : Int) (x03 : Int) {res : List (BitVec 64)}, m_slices_pdqsortOrdered_uint64R q x0c x01 x02 x03 = some res -> Mut Try.prog 59 #[.slice A n c, I64 x01, I64 x02, I64 x03] 26 (Lay.sz (BitVec 64)) A n c (cel x0c) fun r ds => r = .tuple #[] /\ ds = cel res := by
 induction q with
 | zero => intro A n c x0c x01 x02 x03 res h; cases h
 | succ q ih => intro A n c x0c x01 x02 x03 res h; exact w_slices_pdqsortOrdered_uint64F (m_slices_pdqsortOrdered_uint64R q) ih A n c x0c x01 x02 x03 h
theorem w_slices_pdqsortOrdered_uint64 (A : Option Addr) (n c : Nat) (x0c : List (BitVec 64)) (x01 x02 x03 : Int) {res : List (BitVec 64)} (h : m_slices_pdqsortOrdered_uint64 x0c x01 x02 x03 = some res) :
  Mut Try.prog 59 #[.slice A n c, I64 x01, I64 x02, I64 x03] 26 (Lay.sz (BitVec 64)) A n c (cel x0c) fun r ds => r = .tuple #[] /\ ds = cel res := by
 exact w_slices_pdqsortOrdered_uint64R forever A n c x0c x01 x02 x03 h
theorem w_slices_Sort_uint64_uint64 (A : Option Addr) (n c : Nat) (x0c : List (BitVec 64)) {res : List (BitVec 64)} (h : m_slices_Sort_uint64_uint64 x0c = some res) :
  Mut Try.prog 54 #[.slice A n c] 26 (Lay.sz (BitVec 64)) A n c (cel x0c) fun r ds => r = .tuple #[] /\ ds = cel res := by
 refine Mut.intro (N := 11) Try.func54 rfl rfl (Nat.le_of_ble_eq_true rfl) fun w0 e0 => ?_
 unfold m_slices_Sort_uint64_uint64 at h
 refine sr fun _ k1 => mv rfl <| ya (Yld.lenC (xs := x0c) und_63 rfl (RdH.own (k := 2) rfl)) <| asn rfl <| dn <| k1 _ _ <| rg fun _ k2 => ?_
 obtain ⟨x3, hx3, h⟩ := bnd h
 obtain ⟨x5, hx5, h⟩ := bnd h
 refine mv rfl <| mv rfl <| mv rfl <| ya (Yld.conv_i64_u64 some_3 und_75 rfl) <| c0 Try.func60 rfl (fun w hb hh => w_math_bits_Len (Mem.snap w) (BitVec.ofInt 64 (x0c.length : Int)) hx3) <| WL.eff (by decide) (Eff.callMut 2 rfl Try.func59 nm_59 rfl rfl rfl (w_slices_pdqsortOrdered_uint64 A n c x0c (0 : Int) (x0c.length : Int) x3 hx5)) ?_
 rintro _ _ ⟨_, ⟨rfl, rfl⟩, rfl⟩
 refine dn <| k2 _ _ ?_
 injection h with h; subst h
 exact Ret.mut (ResIs.zero rfl) (sc (sc sn)) ⟨rfl, rfl⟩
end Go.Proofs.Ytkcccenekglkoaa
