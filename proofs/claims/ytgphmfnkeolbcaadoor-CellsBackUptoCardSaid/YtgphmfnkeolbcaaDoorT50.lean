import Derived.Test.YtgphmfnkeolbcaaDoorCls
import Derived.Test.YtgphmfnkeolbcaaDoorCanon
import Derived.Test.YtgphmfnkeolbcaaDoorCel
/- Documents and their cells: good, few, as many as told; a canonical document is that of its cells. Plain lists. No condition. -/
set_option linter.unusedVariables false
set_option linter.unusedSimpArgs false
namespace Go.Proofs.YtgphmfnkeolbcaaDoor
open Go Go.RowKit Go.Proofs.YtgphmfnkeolbcaaDoorW.PrintWords RX
theorem ins_ref {o : OpA} (h : pErr o = 0) (hk : o.kind = 1 ∨ o.kind = 2) : refuseP o = 0 := by
  have h1 := B.has_ok h
  unfold pErr at h
  rwa [h1, if_neg (by simp), if_pos hk] at h
theorem doc_ref {xs : List OpA} (hb : badE xs = 0) (hd : isDoc xs = true) : ∀ t, t < xs.length → refuseP (xs.getD t op0) = 0 :=
  fun t ht => ins_ref (badE_getD hb ht) (isDoc_at hd ht)
theorem cellsAll_cons (o : OpA) (r : List OpA) : cellsAll (o :: r) = cellsP o ++ cellsAll r := by unfold cellsAll; rw [List.flatMap_cons]
theorem cellsAll_app (xs ys : List OpA) : cellsAll (xs ++ ys) = cellsAll xs ++ cellsAll ys := by unfold cellsAll; rw [List.flatMap_append]
theorem pelO_ins {o : OpA} (hk : o.kind = 1 ∨ o.kind = 2) : (pelO o).2 = ((cellsP o).length : Int) := by
  unfold pelO cellsP
  rcases hk with hk | hk
  · rw [if_pos hk, if_neg (by omega), List.length_map]
  · rw [if_neg (by omega), if_pos hk, if_pos hk]; rfl
/-- a document's lengths -/
theorem sumL_doc : ∀ xs : List OpA, (∀ o ∈ xs, o.kind = 1 ∨ o.kind = 2) → (cellsAll xs).length ≤ 9223372036854775807 → sumL (xs.map pelO) = (((cellsAll xs).length : Int), 0, 0) := by
  refine B.snoc_ind (fun _ _ => rfl) ?_
  intro xs a ih hd hl
  have hk := hd a (List.mem_append_right _ (List.mem_singleton_self a))
  rw [cellsAll_app, List.length_append] at hl
  have e1 : cellsAll [a] = cellsP a := by rw [cellsAll_cons]; exact List.append_nil _
  rw [e1] at hl
  rw [List.map_append, List.map_cons, List.map_nil, sumL_snoc, ih (fun o ho => hd o (List.mem_append_left _ ho)) (by omega), cellsAll_app, e1, List.length_append]
  unfold stepL
  rw [if_neg (by show ¬ a.kind = 3; omega), if_neg (by show ¬ a.kind = 4; omega), pelO_ins hk, IntWalk.i64_in _ ⟨by omega, by omega⟩]
  simp
theorem doc_mem {xs : List OpA} (hd : isDoc xs = true) : ∀ o ∈ xs, o.kind = 1 ∨ o.kind = 2 := fun o ho => by
  obtain ⟨i, hi, rfl⟩ := List.mem_iff_getElem.1 ho
  have := isDoc_at hd hi
  rwa [List.getD_eq_getElem?_getD, List.getElem?_eq_getElem hi] at this
theorem doc_of_mem {xs : List OpA} (h : ∀ o ∈ xs, o.kind = 1 ∨ o.kind = 2) : isDoc xs = true := isDoc_yes fun t ht => h _ (getD_mem op0 ht)
theorem doc_res {xs : List OpA} (hd : isDoc xs = true) (hl : (cellsAll xs).length ≤ 9223372036854775807) : mResO xs = ((cellsAll xs).length : Int) := by
  unfold mResO
  rw [sumL_doc xs (doc_mem hd) hl]
  show IntKind.i64.wrap (((cellsAll xs).length : Int) + 0) = _
  rw [Int.add_zero, IntWalk.i64_in _ ⟨by omega, by omega⟩]
theorem doc_base {xs : List OpA} (hd : isDoc xs = true) (hl : (cellsAll xs).length ≤ 9223372036854775807) : mBaseO xs = 0 := by
  unfold mBaseO
  rw [sumL_doc xs (doc_mem hd) hl]; rfl
/-! ### cells as operations -/
theorem ins_cells {o : OpA} (ho : pErr o = 0) (hk : o.kind = 1 ∨ o.kind = 2) (s : B.St) : B.step s o = ((cellsP o).map B.opC).foldl B.step s := by
  by_cases h2 : o.kind = 2
  · have hc : o.count = 0 := by
      have h1 := B.has_ok ho
      unfold hasP at h1
      rw [if_neg (by omega), if_pos h2, decide_eq_true_eq] at h1
      exact h1
    have e : B.opC ⟨-1, o.text, o.vk, o.vn, o.vt, o.attrs⟩ = o := by
      rw [B.op_emb rfl]; cases o; simp only at *; subst h2 hc; rfl
    rw [cellsP_2 h2]
    show B.step s o = B.step s (B.opC ⟨-1, o.text, o.vk, o.vn, o.vt, o.attrs⟩)
    rw [e]
  · have h1 := hk.resolve_right h2
    obtain ⟨c0, v1, v2, v3, t0, u0, s0⟩ := B.ok_ins ho h1
    have hn := B.scz_pos u0 t0
    have e0 : cellsP o = (U.sc o.text).map (cellR o.attrs) := if_neg h2
    have em : (cellsP o).map (fun c : CellA => c.rune) = (U.sc o.text).map fun (r : Nat) => (r : Int) := by rw [e0, List.map_map]; rfl
    have eg : B.grp (cellsP o) o.attrs = o := by
      unfold B.grp
      rw [em, U.text_back u0]
      cases o; simp only at *; subst h1 c0 v1 v2 v3; rfl
    rw [← B.grp_step (zs := cellsP o) (a := o.attrs) (by
      rw [e0]; intro e
      have h3 := congrArg List.length e
      rw [List.length_map] at h3
      have h4 : (U.scz o.text).length = (U.sc o.text).length := List.length_map ..
      rw [List.length_nil] at h3; omega) (by
      intro c hc
      rw [e0] at hc
      obtain ⟨r, _, rfl⟩ := List.mem_map.1 hc
      exact ⟨by show ((r : Nat) : Int) ≠ -1; omega, rfl⟩) s, eg]
theorem run_cells : ∀ (xs : List OpA), badE xs = 0 → (∀ o ∈ xs, o.kind = 1 ∨ o.kind = 2) → ∀ s, xs.foldl B.step s = ((cellsAll xs).map B.opC).foldl B.step s
  | [], _, _, s => rfl
  | o :: r, hb, hd, s => by
    have h1 : pErr o = 0 := badE_mem.1 hb o List.mem_cons_self
    have h2 : badE r = 0 := badE_mem.2 fun x hx => badE_mem.1 hb x (List.mem_cons_of_mem _ hx)
    rw [cellsAll_cons, List.map_append, List.foldl_append, ← ins_cells h1 (hd o List.mem_cons_self), List.foldl_cons]
    exact run_cells r h2 (fun x hx => hd x (List.mem_cons_of_mem _ hx)) _
/-- what is gathered hangs on the cells alone -/
theorem can_cells {xs : List OpA} (hb : badE xs = 0) (hd : ∀ o ∈ xs, o.kind = 1 ∨ o.kind = 2) : B.can xs = B.can ((cellsAll xs).map B.opC) := by
  have h : B.run xs = B.run ((cellsAll xs).map B.opC) := run_cells xs hb hd _
  unfold B.can
  rw [h]
theorem push_ins {P : List OpA} {o : OpA} (hP : ∀ x ∈ P, x.kind = 1 ∨ x.kind = 2) (ho : o.kind = 1 ∨ o.kind = 2) : ∀ x ∈ B.push P o, x.kind = 1 ∨ x.kind = 2 := by
  rcases B.snoc_cases P with rfl | ⟨ys, a, rfl⟩
  · rw [B.push_nil]; intro x hx; rw [List.mem_singleton.1 hx]; exact ho
  · rw [B.push_snoc]
    have ha := hP a (List.mem_append_right _ (List.mem_singleton_self a))
    split
    · intro x hx
      rcases List.mem_append.1 hx with hx | hx
      · exact hP x (List.mem_append_left _ hx)
      · rw [List.mem_singleton.1 hx]; exact ha
    · intro x hx
      rcases List.mem_append.1 hx with hx | hx
      · exact hP x hx
      · rw [List.mem_singleton.1 hx]; exact ho
theorem fold_ins : ∀ (os P : List OpA), (∀ x ∈ P, x.kind = 1 ∨ x.kind = 2) → (∀ x ∈ os, x.kind = 1 ∨ x.kind = 2) → ∀ x ∈ os.foldl B.push P, x.kind = 1 ∨ x.kind = 2
  | [], P, hP, _ => hP
  | o :: r, P, hP, h => fold_ins r _ (push_ins hP (h o List.mem_cons_self)) fun x hx => h x (List.mem_cons_of_mem _ hx)
theorem can_ins {xs : List OpA} (hd : ∀ o ∈ xs, o.kind = 1 ∨ o.kind = 2) : ∀ o ∈ B.can xs, o.kind = 1 ∨ o.kind = 2 := by
  have h : B.run xs = (xs.foldl B.push [], 0) := B.foldl_ins xs ([], 0) hd
  intro o ho
  unfold B.can at ho
  rw [h] at ho
  have h1 := B.fin_sub _ o ho
  rw [show B.dels (xs.foldl B.push []) 0 = xs.foldl B.push [] from if_pos rfl] at h1
  exact fold_ins xs [] (fun x hx => by cases hx) hd o h1
theorem ed_doc : ∀ xs : List OpA, (∀ o ∈ xs, o.kind = 1 ∨ o.kind = 2) → B.edit xs [] = some (xs.flatMap B.came)
  | [], _ => rfl
  | o :: r, h => by
    rw [B.ed_ins (h o List.mem_cons_self), ed_doc r fun x hx => h x (List.mem_cons_of_mem _ hx), List.flatMap_cons]; rfl
theorem cells_can {xs : List OpA} (h : (B.bOf xs).2 = 0) (hd : ∀ o ∈ xs, o.kind = 1 ∨ o.kind = 2) : cellsAll (B.can xs) = cellsAll xs := by
  have h1 := B.ed_can h (cs := []) (fun c hc => by cases hc) (ed_doc xs hd)
  rw [ed_doc _ (can_ins hd)] at h1
  exact Option.some.inj h1
theorem sc_one {r : Int} (h : U.vz r) : (U.sc (runesBytes [r])).map (fun (k : Nat) => (k : Int)) = [r] := (U.text_utf (B.vz1 h)).2
theorem cells_op {c : CellA} (h : B.cErr c = 0) : cellsP (B.opC c) = [c] := by
  by_cases hr : c.rune = -1
  · rw [B.op_emb hr, cellsP_2 rfl]; cases c; simp only at *; subst hr; rfl
  · obtain ⟨h1, h2, h3, h4⟩ := B.c_txt h hr
    rw [B.op_txt hr]
    have e := sc_one h1
    have e0 : cellsP (⟨1, runesBytes [c.rune], 0, 0, ⟨#[]⟩, 0, c.attrs⟩ : OpA) = (U.sc (runesBytes [c.rune])).map (cellR c.attrs) := if_neg (by show ¬ (1 : Int) = 2; decide)
    rw [e0]
    obtain ⟨v1, v2, v3⟩ := B.val0 (o := ⟨0, ⟨#[]⟩, c.vk, c.vn, c.vt, 0, []⟩) h3
    generalize U.sc (runesBytes [c.rune]) = l at e
    match l, e with
    | [], e => cases e
    | _ :: _ :: _, e => exact absurd (congrArg List.length e) (by simp)
    | [k], e =>
      have ek : (k : Int) = c.rune := (List.cons.inj e).1
      show [cellR c.attrs k] = [c]
      have : cellR c.attrs k = c := by
        show (⟨(k : Int), _, 0, 0, _, c.attrs⟩ : CellA) = c
        cases c; simp only at *; subst ek h2 v1 v2 v3; rfl
      rw [this]
theorem cells_ops : ∀ cs : List CellA, (∀ c ∈ cs, B.cErr c = 0) → cellsAll (cs.map B.opC) = cs
  | [], _ => rfl
  | c :: r, h => by
    rw [List.map_cons, cellsAll_cons, cells_op (h c List.mem_cons_self), cells_ops r fun x hx => h x (List.mem_cons_of_mem _ hx)]; rfl
theorem ops_ins (cs : List CellA) : ∀ o ∈ cs.map B.opC, o.kind = 1 ∨ o.kind = 2 := fun o ho => by
  obtain ⟨c, _, rfl⟩ := List.mem_map.1 ho
  exact B.op_kind c
/-- the document of good cells has just these cells -/
theorem cells_doc {cs : List CellA} (h : (B.cOf cs).2 = 0) (hn : cs.length ≤ 1048576) : isDoc (B.can (cs.map B.opC)) = true ∧ cellsAll (B.can (cs.map B.opC)) = cs := by
  have hg := B.cOf_ok h
  exact ⟨doc_of_mem (can_ins (ops_ins cs)), by rw [cells_can (by rw [B.doc_of hg hn]) (ops_ins cs), cells_ops cs hg]⟩
theorem doc_inj {a b : List CellA} (ha : (B.cOf a).2 = 0) (hb : (B.cOf b).2 = 0) (na : a.length ≤ 1048576) (nb : b.length ≤ 1048576) : B.can (a.map B.opC) = B.can (b.map B.opC) ↔ a = b :=
  ⟨fun e => by rw [← (cells_doc ha na).2, ← (cells_doc hb nb).2, e], fun e => by rw [e]⟩
/-- one document behind another -/
theorem can_two {a b : List CellA} (ha : (B.cOf a).2 = 0) (hb : (B.cOf b).2 = 0) (na : a.length ≤ 500000) (nb : b.length ≤ 500000) : B.can (B.can (a.map B.opC) ++ B.can (b.map B.opC)) = B.can ((a ++ b).map B.opC) := by
  obtain ⟨d1, c1⟩ := cells_doc ha (by omega)
  obtain ⟨d2, c2⟩ := cells_doc hb (by omega)
  have g1 := (B.bOf_canOk (xs := a.map B.opC) (by rw [B.doc_of (B.cOf_ok ha) (by omega)])).2
  have g2 := (B.bOf_canOk (xs := b.map B.opC) (by rw [B.doc_of (B.cOf_ok hb) (by omega)])).2
  rw [can_cells (badE_mem.2 fun o ho => (List.mem_append.1 ho).elim (badE_mem.1 g1 o) (badE_mem.1 g2 o)) (fun o ho => (List.mem_append.1 ho).elim (doc_mem d1 o) (doc_mem d2 o)), cellsAll_app, c1, c2]
end Go.Proofs.YtgphmfnkeolbcaaDoor
/- Is a delta a document? Conditions: sizes. -/

set_option linter.unusedVariables false
set_option linter.unusedSimpArgs false
set_option maxRecDepth 100000
namespace Go.Proofs.YtgphmfnkeolbcaaDoor
open Go Go.RowKit Go.Proofs.YtgphmfnkeolbcaaDoorW.PrintWords RX
theorem ent26 : Ent Tryd.prog 26 := ent_of Tryd.func26 (by kernel_rfl) rfl
theorem inserts_any (d : Nat) (xs : List OpA) (w : World) (hd : DeltaC w d xs) (hb : badE xs = 0) (hn : xs.length ≤ 1100000) (hz : ∀ i, i < xs.length → opSz (xs.getD i op0)) : Calls Tryd.prog 26 #[.pointer (some ⟨d, 0, none⟩)] w fun e w' => ∃ A' c' zs, zs = (if isDoc xs = true then xs else []) ∧ e = .returned (.tuple #[.slice A' zs.length c', .bool (isDoc xs)]) ∧ zs.length ≤ c' ∧ kOp.R 59 w' w.heap.size (OkFrom w.heap.size) (.slice A' zs.length c') zs ∧ Below w.heap.size w w' := by
 refine RX.enter Tryd.func26 rfl 25 rfl [(0, .pointer (some ⟨d, 0, none⟩))] rfl (by kernel_rfl) (fun R_ hR_ => ?_)
 refine sq (rg (xe0 2 [(0, pw d 0)] ?_))
 refine nl (sq (rg (xe0 1 [(7, pw d 0)] ?_)))
 refine xc 8 ent8 [.pointer (some ⟨d, 0, none⟩)] (dops_any d xs _ hd hb hn hz) ?_
 rintro e w_5 ⟨A_1, c_2, rfl, hl_3, hr_4, hb_6⟩; refine ⟨_, rfl, ?_⟩
 refine xe0 1 [(4, .slice A_1 xs.length c_2)] ?_
 refine nl (sq (sq (rg (xr0 3 [(9, .slice A_1 xs.length c_2), (10, .int .i64 (xs.length : Int)), (11, .int .i64 0)] [] ?_))))
 refine nl (bk (X_loop (ι := Nat) (fun i => [(4, .slice A_1 xs.length c_2), (9, .slice A_1 xs.length c_2), (10, .int .i64 (xs.length : Int)), (11, .int .i64 (i : Int))]) (fun i wl => i ≤ xs.length ∧ (∀ t, t < i → (xs.getD t op0).kind = 1 ∨ (xs.getD t op0).kind = 2) ∧ Below w_5.heap.size w_5 wl) (fun i => xs.length - i) 0 ⟨by omega, fun t ht => by omega, Below.refl _ _⟩ (by kernel_rfl) ?_))
 rintro i wl ⟨hi, hk0, HB⟩
 refine sq (X_region ?_)
 by_cases c_7 : (i : Int) < (xs.length : Int)
 ·refine xr 1 [(12, .eq (.bool true))] [(12, .bool true)] [] [Value.bool (decide ((i : Int) < (xs.length : Int))) = Value.bool true] ⟨congrArg Value.bool (decide_eq_true (c_7)), trivial⟩ ?_
  refine nl (sq (ct (sk (sq (bk (sq (X_region ?_)))))))
  obtain ⟨ad_8, B_11, c_12, ha_9, hc_10, hl_13, hC_14⟩ := Kd.atOp (Kd.R_C (Kd.R_below hr_4 HB)) (i := (i : Int)) (by omega) (by omega)
  replace hc_10 : CellsAt wl (ad_8.add ((i : Int).toNat * 7)) (o7L (xs.getD i op0) (.slice B_11 ((xs.getD i op0).attrs.length) c_12)) := hc_10
  replace hl_13 : (xs.getD i op0).attrs.length ≤ c_12 := hl_13
  replace hC_14 : kAttr.C wl B_11 ((xs.getD i op0).attrs.length) (xs.getD i op0).attrs := hC_14
  refine xw 3 [(13, .idx ad_8), (14, .load (.agg (o7A (xs.getD i op0) (.slice B_11 ((xs.getD i op0).attrs.length) c_12))))] [(6, pw wl.heap.size 0), (14, .agg (o7A (xs.getD i op0) (.slice B_11 ((xs.getD i op0).attrs.length) c_12)))] [12] (wl.alloc (.cells #[.int .i64 0, .string ByteArray.empty, .int .i64 0, .int .i64 0, .string ByteArray.empty, .int .i64 0, .slice none 0 0] 59)) [A_1 = some ad_8, (0 : Int) ≤ (i : Int), (i : Int) < (xs.length : Int), LoadsAs Tryd.prog 59 (ad_8.add ((i : Int).toNat * 7)) (.agg (o7A (xs.getD i op0) (.slice B_11 ((xs.getD i op0).attrs.length) c_12))) wl] ⟨ha_9, (by omega), (by omega), loadsE rfl rfl hc_10 0 ⟨by kernel_rfl, by kernel_rfl⟩, trivial⟩ ?_
  obtain ⟨w_15, hw_19, hb_16, hk_17, hz_18⟩ := new_world wl #[.int .i64 0, .string ByteArray.empty, .int .i64 0, .int .i64 0, .string ByteArray.empty, .int .i64 0, .slice none 0 0] 59
  rw [hw_19]
  refine xst (.agg (o7A (xs.getD i op0) (.slice B_11 ((xs.getD i op0).attrs.length) c_12))) hk_17 0 (o7A (xs.getD i op0) (.slice B_11 ((xs.getD i op0).attrs.length) c_12)) (fun w_20 hg_21 hk_22 hz_23 => ?_)
  refine nl (sq (rg (xr 2 [(16, .load (.int .i64 ((xs.getD i op0).kind)))] [(16, .int .i64 ((xs.getD i op0).kind))] [14] [LoadsAs Tryd.prog 3 (⟨wl.heap.size, 0, none⟩) (.int .i64 ((xs.getD i op0).kind)) w_20] ⟨loads1 rfl (Blk.cell hk_22 0 _ rfl), trivial⟩ ?_)))
  by_cases c_24 : (xs.getD i op0).kind = 1
  ·refine xr 6 [(17, .eq (.bool false))] [(22, .bool false)] [6, 16] [Value.bool ((xs.getD i op0).kind != 1) = Value.bool false] ⟨congrArg Value.bool (bneF (c_24)), trivial⟩ ?_
   refine nl (cf (sk (rg (xr 2 [(23, .eq (.int .i64 ((i : Int) + 1)))] [(11, .int .i64 ((i : Int) + 1))] [22] [Value.int .i64 (IntKind.i64.wrap ((i : Int) + 1)) = Value.int .i64 ((i : Int) + 1)] ⟨wr_i64 (by omega) (by omega), trivial⟩ ?_))))
   refine nl ?_
   refine ⟨(i + 1), by kernel_rfl, ?_, ?_⟩
   ·exact ⟨by omega, fun t ht => by by_cases e_ : t = i; (· subst e_; exact .inl c_24); (· exact hk0 t (by omega)), (bg (bt HB hb_16) hg_21 (HB).size)⟩
   (try dsimp only); omega
  refine xr 4 [(17, .eq (.bool true)), (20, .load (.int .i64 ((xs.getD i op0).kind)))] [(18, .bool true), (20, .int .i64 ((xs.getD i op0).kind))] [6, 16] [Value.bool ((xs.getD i op0).kind != 1) = Value.bool true, LoadsAs Tryd.prog 3 (⟨wl.heap.size, 0, none⟩) (.int .i64 ((xs.getD i op0).kind)) w_20] ⟨congrArg Value.bool (bneT (c_24)), loads1 rfl (Blk.cell hk_22 0 _ rfl), trivial⟩ ?_
  by_cases c_25 : (xs.getD i op0).kind = 2
  ·refine xr 2 [(21, .eq (.bool false))] [(22, .bool false)] [18, 20] [Value.bool ((xs.getD i op0).kind != 2) = Value.bool false] ⟨congrArg Value.bool (bneF (c_25)), trivial⟩ ?_
   refine nl (cf (sk (rg (xe 2 [(23, .eq (.int .i64 ((i : Int) + 1)))] [(4, .slice A_1 xs.length c_2), (9, .slice A_1 xs.length c_2), (10, .int .i64 (xs.length : Int)), (11, .int .i64 ((i : Int) + 1))] [Value.int .i64 (IntKind.i64.wrap ((i : Int) + 1)) = Value.int .i64 ((i : Int) + 1)] ⟨wr_i64 (by omega) (by omega), trivial⟩ ?_))))
   refine nl ?_
   refine ⟨(i + 1), by kernel_rfl, ?_, ?_⟩
   ·exact ⟨by omega, fun t ht => by by_cases e_ : t = i; (· subst e_; exact .inr c_25); (· exact hk0 t (by omega)), (bg (bt HB hb_16) hg_21 (HB).size)⟩
   (try dsimp only); omega
  refine xr 2 [(21, .eq (.bool true))] [(22, .bool true)] [18, 20] [Value.bool ((xs.getD i op0).kind != 2) = Value.bool true] ⟨congrArg Value.bool (bneT (c_25)), trivial⟩ ?_
  refine nl (ct (sq (rg (xe0 2 [(2, .slice none 0 0), (3, .bool false)] ?_))))
  refine nl (X_ret (rk [.slice none 0 0, .bool false] (hR_ _ _ ?_)))
  have hB_26 : Below w.heap.size w w_20 := (bg (bt (bt hb_6 HB) hb_16) hg_21 ((bt hb_6 HB)).size)
  have hd_ := isDoc_no (xs := xs) (i := i) (by omega) c_24 c_25
  exact ⟨none, 0, [], by rw [hd_]; rfl, by rw [hd_]; rfl, Nat.le_refl _, Kd.R_nil _ _ _ _ _, hB_26⟩
 refine xr 1 [(12, .eq (.bool false))] [(12, .bool false)] [] [Value.bool (decide ((i : Int) < (xs.length : Int))) = Value.bool false] ⟨congrArg Value.bool (decide_eq_false (c_7)), trivial⟩ ?_
 refine nl (sq (cf (X_exit (sq (rg (xe0 3 [(2, .slice A_1 xs.length c_2), (3, .bool true)] ?_))))))
 refine nl (X_ret (rk [.slice A_1 xs.length c_2, .bool true] (hR_ _ _ ?_)))
 have hd_ := isDoc_yes (xs := xs) (fun t ht => hk0 t (by omega))
 exact ⟨_, _, xs, by rw [if_pos hd_], by rw [hd_]; rfl, (RX.Kd.R_len (Kd.R_below hr_4 HB)).2, Kd.R_low (Kd.R_below hr_4 HB) (Nat.le_refl _), (bt hb_6 HB)⟩
end Go.Proofs.YtgphmfnkeolbcaaDoor
