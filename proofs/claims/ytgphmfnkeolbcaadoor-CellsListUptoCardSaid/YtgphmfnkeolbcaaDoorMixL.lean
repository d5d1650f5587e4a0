import Derived.Test.YtgphmfnkeolbcaaDoorCls
import Derived.Test.YtgphmfnkeolbcaaDoorAn4
import Derived.Test.YtgphmfnkeolbcaaDoorT50
import Derived.Test.YtgphmfnkeolbcaaDoorT57
import Derived.Test.YtgphmfnkeolbcaaDoorT31
/- Builders: what operations do to a document's cells; the canonical list does the same. No condition. -/
set_option linter.unusedVariables false
set_option linter.unusedSimpArgs false
set_option maxRecDepth 100000
namespace Go.Proofs.YtgphmfnkeolbcaaDoor
open Go Go.RowKit Go.Proofs.YtgphmfnkeolbcaaDoorW.PrintWords RX
namespace B
def cR (at4 : List At) (r : Nat) : CellA := ⟨(r : Int), ByteArray.empty, 0, 0, ByteArray.empty, at4⟩
/-- the cells of an insert -/
noncomputable def came (o : OpA) : List CellA := if o.kind = 2 then [⟨-1, o.text, o.vk, o.vn, o.vt, o.attrs⟩] else (U.sc o.text).map (cR o.attrs)
section
variable {xs : List OpA} {cs : List CellA} {i pt : Nat} {out : List CellA}
end
end B
end Go.Proofs.YtgphmfnkeolbcaaDoor
/- Documents and their cells: good, few, as many as told; a canonical document is that of its cells. Plain lists. No condition. -/
set_option linter.unusedVariables false
set_option linter.unusedSimpArgs false
namespace Go.Proofs.YtgphmfnkeolbcaaDoor
open Go Go.RowKit Go.Proofs.YtgphmfnkeolbcaaDoorW.PrintWords RX
theorem ins_ref {o : OpA} (h : pErr o = 0) (hk : o.kind = 1 ∨ o.kind = 2) : refuseP o = 0 := by
  have h1 := B.has_ok h
  unfold pErr at h
  rwa [h1, if_neg (by simp), if_pos hk] at h
theorem doc_ref {xs : List OpA} (hb : badE xs = 0) (hd : isDoc xs = true) : ∀ t, t < xs.length → refuseP (xs.getD t op0) = 0 :=
  fun t ht => ins_ref (badE_getD hb ht) (isDoc_at hd ht)
theorem utf_nil : U.utf ⟨#[]⟩ := (U.utf_of (s := ⟨#[]⟩) (rs := []) (fun r hr => by cases hr) rfl).1
theorem ops_utf {xs : List OpA} (hb : badE xs = 0) : ∀ i, i < xs.length → ¬ (xs.getD i op0).kind = 2 → U.utf (xs.getD i op0).text := by
  intro i hi h2
  have hp := badE_getD hb hi
  generalize xs.getD i op0 = o at hp h2
  rcases kind_of_ok hp with hk | hk | hk | hk
  · exact (B.ok_ins hp hk).2.2.2.2.2.1
  · exact absurd hk h2
  · have e := congrArg OpA.text (B.ok_ret hp hk).1
    rw [show o.text = (⟨#[]⟩ : ByteArray) from e]; exact utf_nil
  · have e := congrArg OpA.text (B.ok_del hp hk)
    rw [show o.text = (⟨#[]⟩ : ByteArray) from e]; exact utf_nil
theorem cellsP_len1 (o : OpA) : (cellsP o).length ≤ o.text.size + 1 := by
  unfold cellsP
  split
  · simp
  · rw [List.length_map]; have := U.sc_le o.text; omega
theorem cellsAll_few : ∀ xs : List OpA, (cellsAll xs).length ≤ B.txS xs + xs.length
  | [] => by simp [cellsAll]
  | o :: r => by
    have h1 := cellsAll_few r
    have h2 := cellsP_len1 o
    unfold cellsAll at h1 ⊢
    rw [List.flatMap_cons, List.length_append, List.length_cons]
    show _ ≤ (o.text.size + B.txS r) + _
    omega
theorem cellsAll_cons (o : OpA) (r : List OpA) : cellsAll (o :: r) = cellsP o ++ cellsAll r := by unfold cellsAll; rw [List.flatMap_cons]
theorem cellsAll_app (xs ys : List OpA) : cellsAll (xs ++ ys) = cellsAll xs ++ cellsAll ys := by unfold cellsAll; rw [List.flatMap_append]
theorem pelO_ins {o : OpA} (hk : o.kind = 1 ∨ o.kind = 2) : (pelO o).2 = ((cellsP o).length : Int) := by
  unfold pelO cellsP
  rcases hk with hk | hk
  · rw [if_pos hk, if_neg (by omega), List.length_map]
  · rw [if_neg (by omega), if_pos hk, if_pos hk]; rfl
/-- a document's lengths -/
theorem sumL_doc : ∀ xs : List OpA, (∀ o ∈ xs, o.kind = 1 ∨ o.kind = 2) → (cellsAll xs).length ≤ 9223372036854775807 → sumL (xs.map pelO) = (((cellsAll xs).length : Int), 0, 0) := by
  refine B.snoc_ind (fun _ _ => rfl) ?_
  intro xs a ih hd hl
  have hk := hd a (List.mem_append_right _ (List.mem_singleton_self a))
  rw [cellsAll_app, List.length_append] at hl
  have e1 : cellsAll [a] = cellsP a := by rw [cellsAll_cons]; exact List.append_nil _
  rw [e1] at hl
  rw [List.map_append, List.map_cons, List.map_nil, sumL_snoc, ih (fun o ho => hd o (List.mem_append_left _ ho)) (by omega), cellsAll_app, e1, List.length_append]
  unfold stepL
  rw [if_neg (by show ¬ a.kind = 3; omega), if_neg (by show ¬ a.kind = 4; omega), pelO_ins hk, IntWalk.i64_in _ ⟨by omega, by omega⟩]
  simp
theorem doc_mem {xs : List OpA} (hd : isDoc xs = true) : ∀ o ∈ xs, o.kind = 1 ∨ o.kind = 2 := fun o ho => by
  obtain ⟨i, hi, rfl⟩ := List.mem_iff_getElem.1 ho
  have := isDoc_at hd hi
  rwa [List.getD_eq_getElem?_getD, List.getElem?_eq_getElem hi] at this
theorem doc_res {xs : List OpA} (hd : isDoc xs = true) (hl : (cellsAll xs).length ≤ 9223372036854775807) : mResO xs = ((cellsAll xs).length : Int) := by
  unfold mResO
  rw [sumL_doc xs (doc_mem hd) hl]
  show IntKind.i64.wrap (((cellsAll xs).length : Int) + 0) = _
  rw [Int.add_zero, IntWalk.i64_in _ ⟨by omega, by omega⟩]
end Go.Proofs.YtgphmfnkeolbcaaDoor
/- vellumlaw09.long. Conditions: sizes. -/

set_option linter.unusedVariables false
set_option linter.unusedSimpArgs false
set_option maxRecDepth 100000
namespace Go.Proofs.YtgphmfnkeolbcaaDoor
open Go Go.RowKit Go.Proofs.YtgphmfnkeolbcaaDoorW.PrintWords RX
theorem ent6 : Ent Tryd.prog 6 := ent_of Tryd.func6 (by kernel_rfl) rfl
def lgO : List OpA → Nat
 | [] => 0
 | o :: r => (o.text.size + 10 * o.attrs.length) + lgO r
theorem lgO_append : ∀ xs ys : List OpA, lgO (xs ++ ys) = lgO xs + lgO ys
 | [], ys => by simp [lgO]
 | o :: r, ys => by simp only [List.cons_append, lgO, lgO_append r ys]; omega
theorem lgO_take {xs : List OpA} {i : Nat} (h : i < xs.length) : lgO (xs.take (i + 1)) = lgO (xs.take i) + ((xs.getD i op0).text.size + 10 * (xs.getD i op0).attrs.length) := by rw [take_snocD op0 xs i h, lgO_append]; simp [lgO]
theorem llong_any (A : Option Addr) (c : Nat) (xs : List OpA) (w : World) (hx : kOp.C w A xs.length xs) (hn : xs.length ≤ 1100000) (hz : ∀ i, i < xs.length → opSz (xs.getD i op0)) : Calls Tryd.prog 6 #[.slice A xs.length c] w fun e w' => e = .returned (.bool (decide (20000 < lgO xs))) ∧ Below w.heap.size w w' := by
 have hpl : xs.length ≤ 9223372036854775807 := hx.2.1
 refine RX.enter Tryd.func6 rfl 25 rfl [(0, .slice A xs.length c)] rfl (by kernel_rfl) (fun R_ hR_ => ?_)
 refine sq (rg (xe0 1 [(0, .slice A xs.length c)] ?_))
 refine nl (sq (rg (xr0 1 [(3, .int .i64 0)] [] ?_)))
 refine nl (sq (sq (rg (xr0 3 [(6, .slice A xs.length c), (7, .int .i64 (xs.length : Int)), (8, .int .i64 0)] [0] ?_))))
 refine nl (bk (X_loop (ι := Nat) (fun i => [(3, .int .i64 (lgO (xs.take i) : Int)), (6, .slice A xs.length c), (7, .int .i64 (xs.length : Int)), (8, .int .i64 (i : Int))]) (fun i wl => i ≤ xs.length ∧ lgO (xs.take i) ≤ i * 70000000 ∧ Below w.heap.size w wl) (fun i => xs.length - i) 0 ⟨Nat.zero_le _, Nat.le_refl _, (Below.refl _ _)⟩ (by kernel_rfl) ?_))
 rintro i wl ⟨hi, hsz, HB⟩
 have hzi := fun (h_ : i < xs.length) => hz i h_
 have hlt := fun (h_ : i < xs.length) => lgO_take h_
 refine sq (X_region ?_)
 by_cases c_1 : (i : Int) < (xs.length : Int)
 ·refine xr 1 [(9, .eq (.bool true))] [(9, .bool true)] [] [Value.bool (decide ((i : Int) < (xs.length : Int))) = Value.bool true] ⟨congrArg Value.bool (decide_eq_true (c_1)), trivial⟩ ?_
  refine nl (sq (ct (sk (sq (bk (sq (X_region ?_)))))))
  obtain ⟨ad_2, B_5, c_6, ha_3, hc_4, hl_7, hC_8⟩ := Kd.atOp (Kd.C_below hx HB) (i := (i : Int)) (by omega) (by omega)
  replace hc_4 : CellsAt wl (ad_2.add ((i : Int).toNat * 7)) (o7L (xs.getD i op0) (.slice B_5 ((xs.getD i op0).attrs.length) c_6)) := hc_4
  replace hl_7 : (xs.getD i op0).attrs.length ≤ c_6 := hl_7
  replace hC_8 : kAttr.C wl B_5 ((xs.getD i op0).attrs.length) (xs.getD i op0).attrs := hC_8
  refine xw 3 [(10, .idx ad_2), (11, .load (.agg (o7A (xs.getD i op0) (.slice B_5 ((xs.getD i op0).attrs.length) c_6))))] [(5, pw wl.heap.size 0), (11, .agg (o7A (xs.getD i op0) (.slice B_5 ((xs.getD i op0).attrs.length) c_6)))] [9] (wl.alloc (.cells #[.int .i64 0, .string ByteArray.empty, .int .i64 0, .int .i64 0, .string ByteArray.empty, .int .i64 0, .slice none 0 0] 59)) [A = some ad_2, (0 : Int) ≤ (i : Int), (i : Int) < (xs.length : Int), LoadsAs Tryd.prog 59 (ad_2.add ((i : Int).toNat * 7)) (.agg (o7A (xs.getD i op0) (.slice B_5 ((xs.getD i op0).attrs.length) c_6))) wl] ⟨ha_3, (by omega), (by omega), loadsE rfl rfl hc_4 0 ⟨by kernel_rfl, by kernel_rfl⟩, trivial⟩ ?_
  obtain ⟨w_9, hw_13, hb_10, hk_11, hz_12⟩ := new_world wl #[.int .i64 0, .string ByteArray.empty, .int .i64 0, .int .i64 0, .string ByteArray.empty, .int .i64 0, .slice none 0 0] 59
  rw [hw_13]
  refine xst (.agg (o7A (xs.getD i op0) (.slice B_5 ((xs.getD i op0).attrs.length) c_6))) hk_11 0 (o7A (xs.getD i op0) (.slice B_5 ((xs.getD i op0).attrs.length) c_6)) (fun w_14 hg_15 hk_16 hz_17 => ?_)
  refine nl (rg (xr0 2 [(12, .int .i64 (lgO (xs.take i) : Int)), (13, pw wl.heap.size 1)] [3, 11] ?_))
  have hszi := hzi (by omega)
  have hs1 := hszi.1
  have hs3 := hszi.2.2.1
  have hlg := hlt (by omega)
  refine xr 9 [(14, .load (.string ((xs.getD i op0).text))), (17, .load (.slice B_5 ((xs.getD i op0).attrs.length) c_6)), (19, .eq (.int .i64 (10 * ((xs.getD i op0).attrs.length : Int)))), (20, .eq (.int .i64 ((((xs.getD i op0).text).size : Int) + (10 * ((xs.getD i op0).attrs.length : Int))))), (21, .eq (.int .i64 (lgO (xs.take (i + 1)) : Int)))] [(3, .int .i64 (lgO (xs.take (i + 1)) : Int))] [5, 12, 13] [LoadsAs Tryd.prog 9 (⟨wl.heap.size, 1, none⟩) (.string ((xs.getD i op0).text)) w_14, LoadsAs Tryd.prog 42 (⟨wl.heap.size, 6, none⟩) (.slice B_5 ((xs.getD i op0).attrs.length) c_6) w_14, Value.int .i64 (IntKind.i64.wrap (10 * ((xs.getD i op0).attrs.length : Int))) = Value.int .i64 (10 * ((xs.getD i op0).attrs.length : Int)), Value.int .i64 (IntKind.i64.wrap ((((xs.getD i op0).text).size : Int) + (10 * ((xs.getD i op0).attrs.length : Int)))) = Value.int .i64 ((((xs.getD i op0).text).size : Int) + (10 * ((xs.getD i op0).attrs.length : Int))), Value.int .i64 (IntKind.i64.wrap ((lgO (xs.take i) : Int) + ((((xs.getD i op0).text).size : Int) + (10 * ((xs.getD i op0).attrs.length : Int))))) = Value.int .i64 (lgO (xs.take (i + 1)) : Int)] ⟨loads1 rfl (Blk.cell hk_16 1 _ rfl), loads1 rfl (Blk.cell hk_16 6 _ rfl), wr_i64 (by omega) (by omega), wr_i64 (by omega) (by omega), (by rw [show (lgO (xs.take i) : Int) + (((xs.getD i op0).text.size : Int) + 10 * ((xs.getD i op0).attrs.length : Int)) = (lgO (xs.take (i + 1)) : Int) from by omega]; exact wr_i64 (by omega) (by omega)), trivial⟩ ?_
  refine nl (rg (xr 2 [(22, .eq (.int .i64 ((i : Int) + 1)))] [(8, .int .i64 ((i : Int) + 1))] [] [Value.int .i64 (IntKind.i64.wrap ((i : Int) + 1)) = Value.int .i64 ((i : Int) + 1)] ⟨wr_i64 (by omega) (by omega), trivial⟩ ?_))
  refine nl ?_
  refine ⟨(i + 1), by kernel_rfl, ?_, ?_⟩
  ·exact ⟨by omega, by have h_ := hlt (by omega); omega, (bg (bt HB hb_10) hg_15 (HB).size)⟩
  (try dsimp only); omega
 refine xr 1 [(9, .eq (.bool false))] [(9, .bool false)] [] [Value.bool (decide ((i : Int) < (xs.length : Int))) = Value.bool false] ⟨congrArg Value.bool (decide_eq_false (c_1)), trivial⟩ ?_
 refine nl (sq (cf (X_exit (sq (rg (xe0 1 [(23, .int .i64 (lgO (xs.take i) : Int))] ?_))))))
 by_cases c_18 : (lgO (xs.take i) : Int) > 20000
 ·refine xe 2 [(24, .eq (.bool true))] [(2, .bool true)] [Value.bool (decide ((lgO (xs.take i) : Int) > 20000)) = Value.bool true] ⟨congrArg Value.bool (decide_eq_true (c_18)), trivial⟩ ?_
  refine nl (X_ret (rk [.bool true] (hR_ _ _ ?_)))
  have hxi : xs.take i = xs := List.take_of_length_le (by omega)
  rw [show decide (20000 < lgO xs) = true from decide_eq_true (by rw [← hxi]; omega)]
  exact ⟨rfl, HB⟩
 refine xe 2 [(24, .eq (.bool false))] [(2, .bool false)] [Value.bool (decide ((lgO (xs.take i) : Int) > 20000)) = Value.bool false] ⟨congrArg Value.bool (decide_eq_false (c_18)), trivial⟩ ?_
 refine nl (X_ret (rk [.bool false] (hR_ _ _ ?_)))
 have hxi : xs.take i = xs := List.take_of_length_le (by omega)
 rw [show decide (20000 < lgO xs) = false from decide_eq_false (by rw [← hxi]; omega)]
 exact ⟨rfl, HB⟩
end Go.Proofs.YtgphmfnkeolbcaaDoor
/- vellumref06.Document. Conditions: sizes. -/

set_option linter.unusedVariables false
set_option linter.unusedSimpArgs false
set_option maxRecDepth 100000
namespace Go.Proofs.YtgphmfnkeolbcaaDoor
open Go Go.RowKit Go.Proofs.YtgphmfnkeolbcaaDoorW.PrintWords RX
theorem doc6_any (A : Option Addr) (c : Nat) (xs : List OpA) (w : World) (hx : kOp.C w A xs.length xs) (hn : xs.length ≤ 1100000) : Calls Tryd.prog 28 #[.slice A xs.length c] w fun e w' => e = .returned (.bool (isDoc xs)) ∧ Below w.heap.size w w' := by
 have hpl : xs.length ≤ 9223372036854775807 := hx.2.1
 refine RX.enter Tryd.func28 rfl 15 rfl [(0, .slice A xs.length c)] rfl (by kernel_rfl) (fun R_ hR_ => ?_)
 refine sq (rg (xe0 1 [(0, .slice A xs.length c)] ?_))
 refine nl (sq (sq (rg (xe0 3 [(5, .slice A xs.length c), (6, .int .i64 (xs.length : Int)), (7, .int .i64 0)] ?_))))
 refine nl (bk (X_loop (ι := Nat) (fun i => [(5, .slice A xs.length c), (6, .int .i64 (xs.length : Int)), (7, .int .i64 (i : Int))]) (fun i wl => i ≤ xs.length ∧ (∀ t, t < i → insO (xs.getD t op0)) ∧ Below w.heap.size w wl) (fun i => xs.length - i) 0 ⟨Nat.zero_le _, fun t ht => by omega, (Below.refl _ _)⟩ (by kernel_rfl) ?_))
 rintro i wl ⟨hi, hk0, HB⟩
 refine sq (X_region ?_)
 by_cases c_1 : (i : Int) < (xs.length : Int)
 ·refine xr 1 [(8, .eq (.bool true))] [(8, .bool true)] [] [Value.bool (decide ((i : Int) < (xs.length : Int))) = Value.bool true] ⟨congrArg Value.bool (decide_eq_true (c_1)), trivial⟩ ?_
  refine nl (sq (ct (sk (sq (bk (sq (X_region ?_)))))))
  obtain ⟨ad_2, B_5, c_6, ha_3, hc_4, hl_7, hC_8⟩ := Kd.atOp (Kd.C_below hx HB) (i := (i : Int)) (by omega) (by omega)
  replace hc_4 : CellsAt wl (ad_2.add ((i : Int).toNat * 7)) (o7L (xs.getD i op0) (.slice B_5 ((xs.getD i op0).attrs.length) c_6)) := hc_4
  replace hl_7 : (xs.getD i op0).attrs.length ≤ c_6 := hl_7
  replace hC_8 : kAttr.C wl B_5 ((xs.getD i op0).attrs.length) (xs.getD i op0).attrs := hC_8
  refine xw 3 [(9, .idx ad_2), (10, .load (.agg (o7A (xs.getD i op0) (.slice B_5 ((xs.getD i op0).attrs.length) c_6))))] [(4, pw wl.heap.size 0), (10, .agg (o7A (xs.getD i op0) (.slice B_5 ((xs.getD i op0).attrs.length) c_6)))] [8] (wl.alloc (.cells #[.int .i64 0, .string ByteArray.empty, .int .i64 0, .int .i64 0, .string ByteArray.empty, .int .i64 0, .slice none 0 0] 59)) [A = some ad_2, (0 : Int) ≤ (i : Int), (i : Int) < (xs.length : Int), LoadsAs Tryd.prog 59 (ad_2.add ((i : Int).toNat * 7)) (.agg (o7A (xs.getD i op0) (.slice B_5 ((xs.getD i op0).attrs.length) c_6))) wl] ⟨ha_3, (by omega), (by omega), loadsE rfl rfl hc_4 0 ⟨by kernel_rfl, by kernel_rfl⟩, trivial⟩ ?_
  obtain ⟨w_9, hw_13, hb_10, hk_11, hz_12⟩ := new_world wl #[.int .i64 0, .string ByteArray.empty, .int .i64 0, .int .i64 0, .string ByteArray.empty, .int .i64 0, .slice none 0 0] 59
  rw [hw_13]
  refine xst (.agg (o7A (xs.getD i op0) (.slice B_5 ((xs.getD i op0).attrs.length) c_6))) hk_11 0 (o7A (xs.getD i op0) (.slice B_5 ((xs.getD i op0).attrs.length) c_6)) (fun w_14 hg_15 hk_16 hz_17 => ?_)
  refine nl (sq (rg (xr 1 [(11, .load (.agg (o7A (xs.getD i op0) (.slice B_5 ((xs.getD i op0).attrs.length) c_6))))] [(11, .agg (o7A (xs.getD i op0) (.slice B_5 ((xs.getD i op0).attrs.length) c_6)))] [4, 10] [LoadsAs Tryd.prog 59 (⟨wl.heap.size, 0, none⟩) (.agg (o7A (xs.getD i op0) (.slice B_5 ((xs.getD i op0).attrs.length) c_6))) w_14] ⟨loadsB rfl rfl hk_16 0 ⟨by kernel_rfl, by kernel_rfl⟩, trivial⟩ ?_)))
  refine xc 48 ent48 [.agg (o7A (xs.getD i op0) (.slice B_5 ((xs.getD i op0).attrs.length) c_6))] (r6ins_any (xs.getD i op0) _ _ _ (Kd.C_below hC_8 (bg hb_10 hg_15 (Nat.le_refl _)))) ?_
  rintro e w_18 ⟨rfl, hb_19⟩; refine ⟨_, rfl, ?_⟩
  by_cases c_20 : decide (insO (xs.getD i op0)) = true
  ·rw [show (decide (insO (xs.getD i op0)) : Bool) = true from by simpa using c_20]
   refine xr0 1 [(13, .bool false)] [11, 12] ?_
   refine nl (cf (sk (rg (xr 2 [(14, .eq (.int .i64 ((i : Int) + 1)))] [(7, .int .i64 ((i : Int) + 1))] [13] [Value.int .i64 (IntKind.i64.wrap ((i : Int) + 1)) = Value.int .i64 ((i : Int) + 1)] ⟨wr_i64 (by omega) (by omega), trivial⟩ ?_))))
   refine nl ?_
   have hB_21 : Below w.heap.size w w_18 := (bt (bg (bt HB hb_10) hg_15 (HB).size) hb_19)
   refine ⟨(i + 1), by kernel_rfl, ?_, ?_⟩
   ·exact ⟨by omega, fun t ht => by by_cases e_ : t = i; (· subst e_; exact of_decide_eq_true c_20); (· exact hk0 t (by omega)), hB_21⟩
   (try dsimp only); omega
  rw [show (decide (insO (xs.getD i op0)) : Bool) = false from by simpa using c_20]
  refine xr0 1 [(13, .bool true)] [11, 12] ?_
  refine nl (ct (sq (rg (xe0 1 [(2, .bool false)] ?_))))
  refine nl (X_ret (rk [.bool false] (hR_ _ _ ?_)))
  have hB_22 : Below w.heap.size w w_18 := (bt (bg (bt HB hb_10) hg_15 (HB).size) hb_19)
  have hno_ : ¬ insO (xs.getD i op0) := fun h_ => c_20 (decide_eq_true h_)
  rw [isDoc_no (xs := xs) (i := i) (by omega) (fun h_ => hno_ (.inl h_)) (fun h_ => hno_ (.inr h_))]
  exact ⟨rfl, hB_22⟩
 refine xr 1 [(8, .eq (.bool false))] [(8, .bool false)] [] [Value.bool (decide ((i : Int) < (xs.length : Int))) = Value.bool false] ⟨congrArg Value.bool (decide_eq_false (c_1)), trivial⟩ ?_
 refine nl (sq (cf (X_exit (sq (rg (xe0 1 [(2, .bool true)] ?_))))))
 refine nl (X_ret (rk [.bool true] (hR_ _ _ ?_)))
 rw [isDoc_yes (xs := xs) (fun t ht => hk0 t (by omega))]
 exact ⟨rfl, HB⟩
end Go.Proofs.YtgphmfnkeolbcaaDoor
/- Rows of cells whose attributes lie elsewhere: one cell read. No condition. -/

set_option linter.unusedVariables false
set_option linter.unusedSimpArgs false
namespace Go.Proofs.YtgphmfnkeolbcaaDoor.RX
open Go Go.RowKit Go.Proofs.YtgphmfnkeolbcaaDoorW.PrintWords
theorem MixK.cell {e B : Nat} {W0 w : World} {A : Option Addr} {n c : Nat} {xs : List CellA} (h : MixK kCell cell0 e B W0 w A n c xs) {i : Int} (h0 : 0 ≤ i) (h1 : i < n) : ∃ ad B c, A = some ad ∧ CellsAt w (ad.add (i.toNat * 6)) (cellV (xs.getD i.toNat cell0) B c) ∧ (xs.getD i.toNat cell0).attrs.length ≤ c ∧ kAttr.C W0 B (xs.getD i.toNat cell0).attrs.length (xs.getD i.toNat cell0).attrs := by
  obtain ⟨ad, cs, e1, hc, hK⟩ := h.at h0 h1
  obtain ⟨B, c, rfl, hl, hC⟩ := kCell_K hK
  exact ⟨ad, B, c, e1, hc, hl, hC⟩
theorem MixK.blk_ne {α : Type} {d : Kd α} {z : α} {e B g t : Nat} {W0 w : World} {A : Option Addr} {n c : Nat} {xs : List α} {cs : Array Value} (h : MixK d z e B W0 w A n c xs) (hb : Blk w g t cs) (hne : Nat.beq t e = false) : ∀ k, A.map (·.block) = some k → k ≠ g := by
  obtain ⟨vs, hR, _⟩ := h
  exact Kd.R_blk_ne hR hb hne
end Go.Proofs.YtgphmfnkeolbcaaDoor.RX
