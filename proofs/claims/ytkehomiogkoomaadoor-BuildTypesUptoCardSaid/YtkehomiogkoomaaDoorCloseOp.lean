/- Operations and lists of operations as arguments. No condition. -/
import Derived.Test.YtkehomiogkoomaaDoorCloseAt
import Derived.Test.YtkehomiogkoomaaDoorOpsP
set_option linter.unusedVariables false
set_option linter.unusedSimpArgs false
set_option maxRecDepth 100000
namespace Go.Proofs.YtkehomiogkoomaaDoor.Close
open Go Go.RowKit Go.WideShapes Go.ChangeShapes Go.Proofs.YtkehomiogkoomaaDoorW.PrintWords RX
def wtOp (o : OpA) : Nat := 1 + (1 + ((o.text.size + 1) + ((1 + (1 + (1 + (o.vt.size + 1)))) + (1 + (1 + wsum wtAt o.attrs)))))
theorem reads_plain {W : World} : Reads Tryd.prog W (Kd.pair (Kd.int .i64) (Kd.pair (Kd.int .i64) Kd.string)) 44 (fun x => 1 + (1 + (1 + (x.2.2.size + 1)))) :=
  reads_struct3 (d0 := Kd.int .i64) (d1 := Kd.int .i64) (d2 := Kd.string) (wt0 := fun _ => 1) (wt1 := fun _ => 1) (wt2 := fun s => s.size + 1) Tryd.underlying44 (reads_int Tryd.underlying3) (reads_int Tryd.underlying2) (reads_string Tryd.underlying9) rfl rfl rfl (by kernel_rfl) (by kernel_rfl) (by kernel_rfl) (by kernel_rfl)
theorem reads_attrs {W : World} : Reads Tryd.prog W kAttrs 45 (fun xs => 1 + wsum wtAt xs) := reads_slice Tryd.underlying45 (by kernel_rfl) reads_attr
theorem reads_op {W : World} : Reads Tryd.prog W kOp 47 wtOp := by
  intro H enc fuel cs x h
  obtain ⟨xs, n, _, rfl, hl, hlen, hf⟩ := DataW.trod_struct Tryd.underlying47 h
  rw [show Tryd.prog.cellsOf 47 = 7 from by kernel_rfl] at hl
  match cs, hl with
  | [c0, c1, c2, c3, c4, c5, c6], _ =>
    match xs, hlen with
    | [y0, y1, y2, y3, y4], _ =>
      have h0 : DataW.trod enc Tryd.prog W 0 (fun _ => true) true n 3 [c0] = some y0 := by simpa [show Tryd.prog.cellsOf 3 = 1 from by kernel_rfl] using hf 0 _ rfl
      have h1 : DataW.trod enc Tryd.prog W 0 (fun _ => true) true n 9 [c1] = some y1 := by simpa [show Tryd.prog.cellsOf 9 = 1 from by kernel_rfl] using hf 1 _ rfl
      have h2 : DataW.trod enc Tryd.prog W 0 (fun _ => true) true n 44 [c2, c3, c4] = some y2 := by simpa [show Tryd.prog.cellsOf 44 = 3 from by kernel_rfl] using hf 2 _ rfl
      have h3 : DataW.trod enc Tryd.prog W 0 (fun _ => true) true n 3 [c5] = some y3 := by simpa [show Tryd.prog.cellsOf 3 = 1 from by kernel_rfl] using hf 3 _ rfl
      have h4 : DataW.trod enc Tryd.prog W 0 (fun _ => true) true n 45 [c6] = some y4 := by simpa [show Tryd.prog.cellsOf 45 = 1 from by kernel_rfl] using hf 4 _ rfl
      obtain ⟨k, e0, rfl, _⟩ := DataW.trod_int Tryd.underlying3 h0
      obtain ⟨s, e1, w1⟩ := reads_string Tryd.underlying9 H enc _ _ _ h1
      obtain ⟨p, e2, w2⟩ := reads_plain H enc _ _ _ h2
      obtain ⟨m, e3, rfl, _⟩ := DataW.trod_int Tryd.underlying3 h3
      obtain ⟨at4, e4, w4⟩ := reads_attrs H enc _ _ _ h4
      obtain ⟨A, c, e4, hl4, hC⟩ := e4
      obtain ⟨_, _, e2, rfl, _, _, rfl, rfl, rfl⟩ := e2
      obtain rfl : c0 = _ := (List.cons.inj e0).1
      obtain rfl : c1 = _ := (List.cons.inj e1).1
      obtain rfl : c5 = _ := (List.cons.inj e3).1
      obtain rfl : c6 = _ := (List.cons.inj e4).1
      simp only [List.singleton_append, List.cons.injEq, and_true] at e2
      obtain ⟨rfl, rfl, rfl⟩ := e2
      refine ⟨⟨k, s, p.1, p.2.1, p.2.2, m, at4⟩, kOp_K_of (x := ⟨k, s, p.1, p.2.1, p.2.2, m, at4⟩) hl4 hC, ?_⟩
      have b0 := one_le (DataW.lit (H := H) (.int .i64 k))
      simp only [Rows.uptoBulk, Rows.uptoBulkAll, wtOp, List.map_cons, List.map_nil] at *
      omega
theorem op_sz {o : OpA} (h : wtOp o ≤ 1048576) : opSz o := by
  unfold wtOp at h
  obtain ⟨h1, h2⟩ := at_bulk2 (xs := o.attrs) (B := 1048576) (by omega) (Nat.le_refl _)
  exact ⟨by omega, by omega, by omega, h2⟩
theorem op_bulk {xs : List OpA} {B : Nat} (h : 1 + wsum wtOp xs ≤ B) (hB : B ≤ 1048576) : xs.length ≤ 1048576 ∧ ∀ i, i < xs.length → opSz (xs.getD i op0) := by
  refine ⟨?_, fun i hi => ?_⟩
  · have := wsum_len (wt := wtOp) (fun x => by unfold wtOp; omega) xs
    omega
  · have := wsum_mem wtOp (getD_mem op0 hi)
    exact op_sz (by omega)
end Go.Proofs.YtkehomiogkoomaaDoor.Close
