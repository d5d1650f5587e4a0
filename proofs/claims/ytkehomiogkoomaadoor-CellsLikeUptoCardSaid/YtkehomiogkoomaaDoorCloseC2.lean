import Derived.Test.YtkehomiogkoomaaDoorClose
import Derived.Test.YtkehomiogkoomaaDoorAt
import Derived.Test.YtkehomiogkoomaaDoorOpsP
import Derived.Test.YtkehomiogkoomaaDoorCell
import Derived.Test.YtkehomiogkoomaaDoorCls
/- Lists of attributes as arguments. No condition. -/
set_option linter.unusedVariables false
set_option linter.unusedSimpArgs false
namespace Go.Proofs.YtkehomiogkoomaaDoor.Close
open Go Go.RowKit Go.WideShapes Go.ChangeShapes Go.Proofs.YtkehomiogkoomaaDoorW.PrintWords RX
def wtAt (x : At) : Nat := 1 + ((x.1.size + 1) + (1 + (1 + (1 + (x.2.2.2.size + 1)))))
theorem reads_attr {W : World} : Reads Tryd.prog W kAttr 71 wtAt :=
  reads_struct2 Tryd.underlying71 (reads_string Tryd.underlying9) (reads_struct3 (d0 := Kd.int .i64) (d1 := Kd.int .i64) (d2 := Kd.string) (wt0 := fun _ => 1) (wt1 := fun _ => 1) (wt2 := fun s => s.size + 1) Tryd.underlying44 (reads_int Tryd.underlying3) (reads_int Tryd.underlying2) (reads_string Tryd.underlying9) rfl rfl rfl (by kernel_rfl) (by kernel_rfl) (by kernel_rfl) (by kernel_rfl)) rfl rfl (by kernel_rfl) (by kernel_rfl) (by kernel_rfl)
theorem at_bulk2 {xs : List At} {B : Nat} (h : 1 + wsum wtAt xs ≤ B) (hB : B ≤ 1048576) : xs.length ≤ 1048576 ∧ ∀ i, i < xs.length → (xs.getD i at0).1.size ≤ 100000000 ∧ (xs.getD i at0).2.2.2.size ≤ 100000000 := by
  refine ⟨?_, fun i hi => ?_⟩
  · have := wsum_len (wt := wtAt) (fun x => by unfold wtAt; omega) xs
    omega
  · have hm : xs.getD i at0 ∈ xs := by rw [List.getD_eq_getElem?_getD, List.getElem?_eq_getElem hi]; exact List.getElem_mem hi
    have := wsum_mem wtAt hm
    have e : wtAt (xs.getD i at0) = 1 + (((xs.getD i at0).1.size + 1) + (1 + (1 + (1 + ((xs.getD i at0).2.2.2.size + 1))))) := rfl
    omega
end Go.Proofs.YtkehomiogkoomaaDoor.Close
/- Operations and lists of operations as arguments. No condition. -/
set_option linter.unusedVariables false
set_option linter.unusedSimpArgs false
set_option maxRecDepth 100000
namespace Go.Proofs.YtkehomiogkoomaaDoor.Close
open Go Go.RowKit Go.WideShapes Go.ChangeShapes Go.Proofs.YtkehomiogkoomaaDoorW.PrintWords RX
def wtOp (o : OpA) : Nat := 1 + (1 + ((o.text.size + 1) + ((1 + (1 + (1 + (o.vt.size + 1)))) + (1 + (1 + wsum wtAt o.attrs)))))
theorem reads_plain {W : World} : Reads Tryd.prog W (Kd.pair (Kd.int .i64) (Kd.pair (Kd.int .i64) Kd.string)) 44 (fun x => 1 + (1 + (1 + (x.2.2.size + 1)))) :=
  reads_struct3 (d0 := Kd.int .i64) (d1 := Kd.int .i64) (d2 := Kd.string) (wt0 := fun _ => 1) (wt1 := fun _ => 1) (wt2 := fun s => s.size + 1) Tryd.underlying44 (reads_int Tryd.underlying3) (reads_int Tryd.underlying2) (reads_string Tryd.underlying9) rfl rfl rfl (by kernel_rfl) (by kernel_rfl) (by kernel_rfl) (by kernel_rfl)
theorem reads_attrs {W : World} : Reads Tryd.prog W kAttrs 45 (fun xs => 1 + wsum wtAt xs) := reads_slice Tryd.underlying45 (by kernel_rfl) reads_attr
theorem op_sz {o : OpA} (h : wtOp o ≤ 1048576) : opSz o := by
  unfold wtOp at h
  obtain ⟨h1, h2⟩ := at_bulk2 (xs := o.attrs) (B := 1048576) (by omega) (Nat.le_refl _)
  exact ⟨by omega, by omega, by omega, h2⟩
end Go.Proofs.YtkehomiogkoomaaDoor.Close
/- Cells and lists of cells as arguments. No condition. -/
set_option linter.unusedVariables false
set_option linter.unusedSimpArgs false
set_option maxRecDepth 100000
namespace Go.Proofs.YtkehomiogkoomaaDoor.Close
open Go Go.RowKit Go.WideShapes Go.ChangeShapes Go.Proofs.YtkehomiogkoomaaDoorW.PrintWords RX
def wtCell (o : CellA) : Nat := 1 + (1 + ((o.kind.size + 1) + ((1 + (1 + (1 + (o.vt.size + 1)))) + (1 + wsum wtAt o.attrs))))
theorem reads_cell {W : World} : Reads Tryd.prog W kCell 126 wtCell := by
  intro H enc fuel cs x h
  obtain ⟨xs, n, _, rfl, hl, hlen, hf⟩ := DataW.trod_struct Tryd.underlying126 h
  rw [show Tryd.prog.cellsOf 126 = 6 from by kernel_rfl] at hl
  match cs, hl with
  | [c0, c1, c2, c3, c4, c5], _ =>
    match xs, hlen with
    | [y0, y1, y2, y3], _ =>
      have h0 : DataW.trod enc Tryd.prog W 0 (fun _ => true) true n 21 [c0] = some y0 := by simpa [show Tryd.prog.cellsOf 21 = 1 from by kernel_rfl] using hf 0 _ rfl
      have h1 : DataW.trod enc Tryd.prog W 0 (fun _ => true) true n 9 [c1] = some y1 := by simpa [show Tryd.prog.cellsOf 9 = 1 from by kernel_rfl] using hf 1 _ rfl
      have h2 : DataW.trod enc Tryd.prog W 0 (fun _ => true) true n 44 [c2, c3, c4] = some y2 := by simpa [show Tryd.prog.cellsOf 44 = 3 from by kernel_rfl] using hf 2 _ rfl
      have h4 : DataW.trod enc Tryd.prog W 0 (fun _ => true) true n 45 [c5] = some y3 := by simpa [show Tryd.prog.cellsOf 45 = 1 from by kernel_rfl] using hf 3 _ rfl
      obtain ⟨k, e0, rfl, _⟩ := DataW.trod_int Tryd.underlying21 h0
      obtain ⟨s, e1, w1⟩ := reads_string Tryd.underlying9 H enc _ _ _ h1
      obtain ⟨p, e2, w2⟩ := reads_plain H enc _ _ _ h2
      obtain ⟨at4, e4, w4⟩ := reads_attrs H enc _ _ _ h4
      obtain ⟨A, c, e4, hl4, hC⟩ := e4
      obtain ⟨_, _, e2, rfl, _, _, rfl, rfl, rfl⟩ := e2
      obtain rfl : c0 = _ := (List.cons.inj e0).1
      obtain rfl : c1 = _ := (List.cons.inj e1).1
      obtain rfl : c5 = _ := (List.cons.inj e4).1
      simp only [List.singleton_append, List.cons.injEq, and_true] at e2
      obtain ⟨rfl, rfl, rfl⟩ := e2
      refine ⟨⟨k, s, p.1, p.2.1, p.2.2, at4⟩, kCell_K_of (x := ⟨k, s, p.1, p.2.1, p.2.2, at4⟩) hl4 hC, ?_⟩
      have b0 := one_le (DataW.lit (H := H) (.int .i32 k))
      simp only [Rows.uptoBulk, Rows.uptoBulkAll, wtCell, List.map_cons, List.map_nil] at *
      omega
end Go.Proofs.YtkehomiogkoomaaDoor.Close
/- Cells as arguments, with the sizes that layer cells asks. No condition. -/
set_option linter.unusedVariables false
set_option linter.unusedSimpArgs false
set_option maxRecDepth 100000
namespace Go.Proofs.YtkehomiogkoomaaDoor.Close
open Go Go.RowKit Go.WideShapes Go.ChangeShapes Go.Proofs.YtkehomiogkoomaaDoorW.PrintWords RX
theorem cell_sz2 {o : CellA} (h : wtCell o ≤ 1048576) : B.cellSz o := by
  unfold wtCell at h
  obtain ⟨h2, h3⟩ := at_bulk2 (xs := o.attrs) (B := 1048576) (by omega) (Nat.le_refl _)
  exact ⟨by omega, by omega, h2, h3⟩
theorem open_cell_arg {W : World} {H : Type} {enc : TypeId × Value → H} {base : Nat} {v : Value} {x : DataW H} {p : List MemPlace}
    (hv : Value.okWide Tryd.prog W .any base 126 v) (h : DataW.Trod enc Tryd.prog W 0 (fun _ => true) true 126 v x p) (hb : Rows.uptoBulk x ≤ 1048576) :
    ∃ (o : CellA) (A : Option Addr) (c : Nat), v = .agg #[.int .i32 o.rune, .string o.kind, .int .i64 o.vk, .int .i64 o.vn, .string o.vt, .slice A o.attrs.length c] ∧ o.attrs.length ≤ c ∧ kAttr.C W A o.attrs.length o.attrs ∧ B.cellSz o := by
  obtain ⟨cs, rfl, _⟩ := okWide_struct Tryd.underlying126 hv
  obtain ⟨fuel, hf⟩ := h
  obtain ⟨o, hK, hw⟩ := reads_cell (W := W) H enc fuel _ _ hf
  obtain ⟨A, c, he, hl, hC⟩ := kCell_K hK
  refine ⟨o, A, c, ?_, hl, hC, cell_sz2 (Nat.le_trans hw hb)⟩
  have he : cs.toList = _ := he
  obtain rfl : cs = (cellV o A c).toArray := by rw [← he]
  rfl
end Go.Proofs.YtkehomiogkoomaaDoor.Close
