import Derived.Test.YtkehomiogkoomaaDoorClose
import Derived.Test.YtkehomiogkoomaaDoorOp
/- Lists of attributes as arguments. No condition. -/
set_option linter.unusedVariables false
set_option linter.unusedSimpArgs false
namespace Go.Proofs.YtkehomiogkoomaaDoor.Close
open Go Go.RowKit Go.WideShapes Go.ChangeShapes Go.Proofs.YtkehomiogkoomaaDoorW.PrintWords RX
def wtAt (x : At) : Nat := 1 + ((x.1.size + 1) + (1 + (1 + (1 + (x.2.2.2.size + 1)))))
theorem reads_attr {W : World} : Reads Tryd.prog W kAttr 71 wtAt :=
  reads_struct2 Tryd.underlying71 (reads_string Tryd.underlying9) (reads_struct3 (d0 := Kd.int .i64) (d1 := Kd.int .i64) (d2 := Kd.string) (wt0 := fun _ => 1) (wt1 := fun _ => 1) (wt2 := fun s => s.size + 1) Tryd.underlying44 (reads_int Tryd.underlying3) (reads_int Tryd.underlying2) (reads_string Tryd.underlying9) rfl rfl rfl (by kernel_rfl) (by kernel_rfl) (by kernel_rfl) (by kernel_rfl)) rfl rfl (by kernel_rfl) (by kernel_rfl) (by kernel_rfl)
theorem at_bulk2 {xs : List At} {B : Nat} (h : 1 + wsum wtAt xs ≤ B) (hB : B ≤ 1048576) : xs.length ≤ 1048576 ∧ ∀ i, i < xs.length → (xs.getD i at0).1.size ≤ 100000000 ∧ (xs.getD i at0).2.2.2.size ≤ 100000000 := by
  refine ⟨?_, fun i hi => ?_⟩
  · have := wsum_len (wt := wtAt) (fun x => by unfold wtAt; omega) xs
    omega
  · have hm : xs.getD i at0 ∈ xs := by rw [List.getD_eq_getElem?_getD, List.getElem?_eq_getElem hi]; exact List.getElem_mem hi
    have := wsum_mem wtAt hm
    have e : wtAt (xs.getD i at0) = 1 + (((xs.getD i at0).1.size + 1) + (1 + (1 + (1 + ((xs.getD i at0).2.2.2.size + 1))))) := rfl
    omega
end Go.Proofs.YtkehomiogkoomaaDoor.Close
