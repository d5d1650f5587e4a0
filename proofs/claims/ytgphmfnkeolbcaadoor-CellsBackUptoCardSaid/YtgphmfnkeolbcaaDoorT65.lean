import Derived.Test.YtgphmfnkeolbcaaDoorCell
import Derived.Test.YtgphmfnkeolbcaaDoorT50
import Derived.Test.YtgphmfnkeolbcaaDoorT52
import Derived.Test.YtgphmfnkeolbcaaDoorMixL
/- CellsBack returns true. Conditions: sizes, the tables of utf8, the errors' variables. -/
set_option linter.unusedVariables false
set_option linter.unusedSimpArgs false
set_option maxRecDepth 100000
namespace Go.Proofs.YtgphmfnkeolbcaaDoor
open Go Go.RowKit Go.Proofs.YtgphmfnkeolbcaaDoorW.PrintWords RX
theorem sums_doc : ∀ xs : List OpA, (∀ o ∈ xs, o.kind = 1 ∨ o.kind = 2) → sB xs = 0 ∧ sR xs = ((cellsAll xs).length : Int)
 | [], _ => ⟨rfl, rfl⟩
 | o :: r, h => by
  have hk := h o List.mem_cons_self
  obtain ⟨k1, k2⟩ := sums_doc r fun x hx => h x (List.mem_cons_of_mem _ hx)
  have h1 : opB o = 0 := B.opB_ins hk
  have h2 : opR o = ((cellsP o).length : Int) := by
   rcases hk with hk | hk
   ·rw [B.opR_txt hk, cellsP_1 hk, List.length_map]
   rw [B.opR_emb hk, cellsP_2 hk]; rfl
  refine ⟨?_, ?_⟩
  ·show opB o + sB r = 0
   rw [h1, k1]; rfl
  show opR o + sR r = _
  rw [h2, k2, cellsAll_cons, List.length_append]; omega
/-- what a law knows of two documents of cells -/
theorem two_facts {a b : List CellA} (ha : (B.cOf a).2 = 0) (hb : (B.cOf b).2 = 0) (na : a.length ≤ 20000) (nb : b.length ≤ 20000) (za : ∀ i, i < a.length → B.cellSz (a.getD i cell0)) (zb : ∀ i, i < b.length → B.cellSz (b.getD i cell0)) :
  (B.cOf (a ++ b)).2 = 0 ∧ (∀ i, i < (a ++ b).length → B.cellSz ((a ++ b).getD i cell0)) ∧ (B.bOf ((B.can (List.map B.opC a)) ++ (B.can (List.map B.opC b)))).2 = 0 ∧ B.txS ((B.can (List.map B.opC a)) ++ (B.can (List.map B.opC b))) ≤ 50000000 := by
 obtain ⟨d1, c1⟩ := cells_doc ha (by omega)
 obtain ⟨d2, c2⟩ := cells_doc hb (by omega)
 have g1 := (B.bOf_canOk (xs := a.map B.opC) (by rw [B.doc_of (B.cOf_ok ha) (by omega)])).2
 have g2 := (B.bOf_canOk (xs := b.map B.opC) (by rw [B.doc_of (B.cOf_ok hb) (by omega)])).2
 have mz : ∀ l : List CellA, (∀ i, i < l.length → B.cellSz (l.getD i cell0)) → ∀ c ∈ l, B.cellSz c := fun l hz c hc => by
  obtain ⟨i, hi, rfl⟩ := List.getElem_of_mem hc
  have := hz i hi
  rwa [List.getD_eq_getElem?_getD, List.getElem?_eq_getElem hi] at this
 have ml : ∀ c ∈ a ++ b, B.cellSz c := fun c hc => (List.mem_append.1 hc).elim (mz a za c) (mz b zb c)
 have me : ∀ c ∈ a ++ b, B.cErr c = 0 := fun c hc => (List.mem_append.1 hc).elim (B.cOf_ok ha c) (B.cOf_ok hb c)
 refine ⟨?_, fun i hi => ml _ (getD_mem cell0 hi), ?_, ?_⟩
 ·show (B.firstE _ _).2 = 0
  rw [B.first_none fun j hj => me _ (getD_mem cell0 hj)]
 ·have hm : ∀ o ∈ (B.can (List.map B.opC a)) ++ (B.can (List.map B.opC b)), o.kind = 1 ∨ o.kind = 2 := fun o ho => (List.mem_append.1 ho).elim (doc_mem d1 o) (doc_mem d2 o)
  obtain ⟨s1, s2⟩ := sums_doc _ hm
  rw [B.bOf_of (badE_mem.2 fun o ho => (List.mem_append.1 ho).elim (badE_mem.1 g1 o) (badE_mem.1 g2 o)) (by rw [s1]; decide) (by rw [s2, cellsAll_app, c1, c2, List.length_append]; show _ ≤ (1099511627776 : Int); omega)]
 have hf : ∀ l : List CellA, (∀ c ∈ l, B.cErr c = 0 ∧ B.cellSz c) → ∀ o ∈ l.map B.opC, B.fine o := fun l hl o ho => by
  obtain ⟨c, hc, rfl⟩ := List.mem_map.1 ho
  exact B.fine_of (B.op_sz (hl c hc).1 (hl c hc).2).1
 have ga : ∀ c ∈ a, B.cErr c = 0 ∧ B.cellSz c := fun c hc => ⟨B.cOf_ok ha c hc, mz a za c hc⟩
 have gb : ∀ c ∈ b, B.cErr c = 0 ∧ B.cellSz c := fun c hc => ⟨B.cOf_ok hb c hc, mz b zb c hc⟩
 have t1 := B.can_tx (hf a ga)
 have t2 := B.can_tx (hf b gb)
 have t3 := B.doc_tx a ga
 have t4 := B.doc_tx b gb
 rw [B.txS_append]; omega
set_option maxHeartbeats 4000000 in
theorem cellsBack_law (A D : Option Addr) (c d : Nat) (ca cb : List CellA) (w : World) (hx : kCell.C w A ca.length ca) (hy : kCell.C w D cb.length cb) (hxc : ca.length ≤ c) (hyc : cb.length ≤ d) (hn : ca.length ≤ 1048576) (hm : cb.length ≤ 1048576) (hz : ∀ i, i < ca.length → B.cellSz (ca.getD i cell0)) (hzb : ∀ i, i < cb.length → B.cellSz (cb.getD i cell0)) (hT : Tabs w) (es : List Addr) (hO : ErrsO w es) (hEC : ErrsC w es) : Calls Tryd.prog 4 #[.slice A ca.length c, .slice D cb.length d] w fun e w' => e = .returned (.bool true) ∧ Below w.heap.size w w' := by
 have hpl : ca.length ≤ 9223372036854775807 := hx.2.1
 have hpm : cb.length ≤ 9223372036854775807 := hy.2.1
 refine RX.enter Tryd.func4 rfl 123 rfl [(0, .slice A ca.length c), (1, .slice D cb.length d)] rfl (by kernel_rfl) (fun R_ hR_ => ?_)
 refine sq (rg (xe0 1 [(0, .slice A ca.length c), (1, .slice D cb.length d)] ?_))
 refine nl (sq (rg (xc 5 ent5 [] (lives9_any _ (hT.below (Below.refl _ _)) es (hO.below (Below.refl _ _))) ?_)))
 rintro e w_1 ⟨rfl, hb_2⟩; refine ⟨_, rfl, ?_⟩
 refine xr0 1 [(5, .bool true)] [18] ?_
 refine nl (sq (sq (rg (xr0 4 [(21, .bool false), (22, .slice A ca.length c)] [] ?_))))
 refine xc 18 ent18 [.slice A ca.length c] (large9_any _ _ ca _ (Kd.C_below hx hb_2) hn hz) ?_
 rintro e w_3 ⟨rfl, hb_4⟩; refine ⟨_, rfl, ?_⟩
 refine xr0 2 [(25, .bool (decide (20000 < lgC ca)))] [21, 22, 23] ?_
 by_cases c_5 : decide (20000 < lgC ca) = true
 ·rw [show (decide (20000 < lgC ca) : Bool) = true from by simpa using c_5]
  refine xr0 3 [(28, .bool true)] [25] ?_
  refine nl (ct (sq (rg (xe0 2 [(4, .bool true)] ?_))))
  refine nl (X_ret (rk [.bool true] (hR_ _ _ ?_)))
  exact ⟨rfl, (bt hb_2 hb_4)⟩
 have hlg_ca := of_decide_eq_false (Bool.eq_false_iff.2 c_5)
 have hlen_ca := lgC_len ca
 rw [show (decide (20000 < lgC ca) : Bool) = false from by simpa using c_5]
 refine xr0 1 [(25, .bool false), (26, .slice D cb.length d)] [] ?_
 refine xc 18 ent18 [.slice D cb.length d] (large9_any _ _ cb _ (Kd.C_below hy (bt hb_2 hb_4)) hm hzb) ?_
 rintro e w_6 ⟨rfl, hb_7⟩; refine ⟨_, rfl, ?_⟩
 refine xr0 1 [(28, .bool (decide (20000 < lgC cb)))] [25, 26, 27] ?_
 refine nl ?_
 by_cases c_8 : decide (20000 < lgC cb) = true
 ·rw [show (decide (20000 < lgC cb) : Bool) = true from by simpa using c_8]
  refine ct (sq (rg (xe0 2 [(4, .bool true)] ?_)))
  refine nl (X_ret (rk [.bool true] (hR_ _ _ ?_)))
  exact ⟨rfl, (bt (bt hb_2 hb_4) hb_7)⟩
 have hlg_cb := of_decide_eq_false (Bool.eq_false_iff.2 c_8)
 have hlen_cb := lgC_len cb
 rw [show (decide (20000 < lgC cb) : Bool) = false from by simpa using c_8]
 refine cf (sk (sq (rg (xe0 1 [(0, .slice A ca.length c), (1, .slice D cb.length d), (31, .slice A ca.length c)] ?_))))
 refine xc 19 ent19 [.slice A ca.length c] (c9of_any _ _ ca _ (Kd.C_below hx (bt (bt hb_2 hb_4) hb_7)) hxc (by first | omega | (rw [List.length_append]; omega)) hz (hT.below (bt (bt hb_2 hb_4) hb_7)) es (hO.below (bt (bt hb_2 hb_4) hb_7))) ?_
 rintro e w_9 ⟨hb_10, ⟨hb0_11, x1, A_12, c_13, rfl, hd_14⟩ | ⟨hb0_11, rfl⟩⟩
 ·refine ⟨_, rfl, ?_⟩
  obtain ⟨hcb_x1, hcn_x1, hcz_x1⟩ := cell_facts hb0_11 (by first | omega | (rw [List.length_append]; omega)) hz
  have hD_x1 := hd_14.c
  refine xr0 7 [(6, pw x1 0), (8, .nilIface)] [31, 32] ?_
  refine nl (sq (rg (xr0 1 [(37, .slice D cb.length d)] [] ?_)))
  refine xc 19 ent19 [.slice D cb.length d] (c9of_any _ _ cb _ (Kd.C_below hy (bt (bt (bt hb_2 hb_4) hb_7) hb_10)) hyc (by first | omega | (rw [List.length_append]; omega)) hzb (hT.below (bt (bt (bt hb_2 hb_4) hb_7) hb_10)) es (hO.below (bt (bt (bt hb_2 hb_4) hb_7) hb_10))) ?_
  rintro e w_15 ⟨hb_16, ⟨hb0_17, y1, A_18, c_19, rfl, hd_20⟩ | ⟨hb0_17, rfl⟩⟩
  ·refine ⟨_, rfl, ?_⟩
   obtain ⟨hcb_y1, hcn_y1, hcz_y1⟩ := cell_facts hb0_17 (by first | omega | (rw [List.length_append]; omega)) hzb
   have hD_y1 := hd_20.c
   refine xr0 7 [(9, pw y1 0), (11, .nilIface)] [37, 38] ?_
   refine nl (sq (sq (rg (xr0 6 [(47, .bool false)] [8, 11] ?_))))
   refine nl (cf (sk (sq (rg (xr0 1 [(49, pw x1 0)] [47] ?_)))))
   obtain ⟨hdoc_, hcells_⟩ := cells_doc hb0_11 hn
   obtain ⟨hof2_, hz2_, hbof_, htx_⟩ := two_facts hb0_11 hb0_17 (by omega) (by omega) hz hzb
   have hB_29 : Below w.heap.size w w_15 := (bt (bt (bt (bt hb_2 hb_4) hb_7) hb_10) hb_16)
   refine xc 9 ent9 [.pointer (some ⟨x1, 0, none⟩)] (clist_any x1 (B.can (List.map B.opC ca)) _ (hD_x1.below hb_16) hcb_x1 hcn_x1 hcz_x1 (fun h_ => doc_ref hcb_x1 h_) (by rw [hcells_]; omega) (hT.below hB_29) es (hEC.below hB_29)) ?_
   rintro e w_21 ⟨A_23, c_24, zs_25, ez_26, rfl, hl_27, hr_28, hb_22⟩; refine ⟨_, rfl, ?_⟩
   rw [if_pos hdoc_, hcells_] at ez_26; rw [ez_26] at hl_27 hr_28 ⊢; rw [if_pos hdoc_, errV_zero]
   refine xe0 5 [(0, .slice A ca.length c), (1, .slice D cb.length d), (6, pw x1 0), (8, .nilIface), (9, pw y1 0), (12, .slice A_23 ca.length c_24)] ?_
   refine nl (sq (sq (rg (xr0 5 [(55, .bool false), (56, .slice A_23 ca.length c_24), (57, .slice A ca.length c)] [8] ?_))))
   refine xc 12 ent12 [.slice A_23 ca.length c_24, .slice A ca.length c] (r9list_any _ _ _ _ ca ca _ (Kd.R_C hr_28) (Kd.C_below hx (bt hB_29 hb_22))) ?_
   rintro e w_30 ⟨rfl, hb_31⟩; refine ⟨_, rfl, ?_⟩
   rw [(csEqP_iff ca ca).2 rfl]
   refine xr0 4 [(61, .bool false), (62, pw x1 0)] [55, 56, 57, 58] ?_
   refine xc 20 ent20 [.pointer (some ⟨x1, 0, none⟩)] (mdoc_any x1 (B.can (List.map B.opC ca)) _ (hD_x1.below (bt (bt hb_16 hb_22) hb_31)) hcb_x1 hcn_x1 hcz_x1 (hT.below (bt (bt hB_29 hb_22) hb_31)) es (hO.below (bt (bt hB_29 hb_22) hb_31))) ?_
   rintro e w_32 ⟨rfl, hb_33⟩; refine ⟨_, rfl, ?_⟩
   rw [show decide (mBaseO (B.can (List.map B.opC ca)) = 0) = true from decide_eq_true (doc_base hdoc_ (by rw [hcells_]; omega))]
   refine xr0 4 [(66, .bool false), (67, pw x1 0)] [61, 62, 63] ?_
   refine xc 13 ent13 [.pointer (some ⟨x1, 0, none⟩)] (mres_any x1 (B.can (List.map B.opC ca)) _ (hD_x1.below (bt (bt (bt hb_16 hb_22) hb_31) hb_33)) hcb_x1 hcn_x1 hcz_x1 (hT.below (bt (bt (bt hB_29 hb_22) hb_31) hb_33)) es (hO.below (bt (bt (bt hB_29 hb_22) hb_31) hb_33))) ?_
   rintro e w_34 ⟨rfl, hb_35⟩; refine ⟨_, rfl, ?_⟩
   rw [doc_res hdoc_ (by rw [hcells_]; omega), hcells_]
   refine xr 4 [(71, .eq (.bool false))] [(72, .bool false)] [66, 67, 68] [Value.bool ((ca.length : Int) != (ca.length : Int)) = Value.bool false] ⟨congrArg Value.bool (bneF rfl), trivial⟩ ?_
   refine nl (cf (sk (sq (rg (xr0 1 [(74, .slice A_23 ca.length c_24)] [12, 72] ?_)))))
   have hB_42 : Below w.heap.size w w_34 := (bt (bt (bt (bt hB_29 hb_22) hb_31) hb_33) hb_35)
   refine xc 19 ent19 [.slice A_23 ca.length c_24] (c9of_any _ _ ca _ (Kd.R_C (Kd.R_below hr_28 (bt (bt hb_31 hb_33) hb_35))) hl_27 (by first | omega | (rw [List.length_append]; omega)) hz (hT.below hB_42) es (hO.below hB_42)) ?_
   rintro e w_36 ⟨hb_37, ⟨hb0_38, a1, A_39, c_40, rfl, hd_41⟩ | ⟨hb0_38, rfl⟩⟩
   ·refine ⟨_, rfl, ?_⟩
    obtain ⟨hcb_a1, hcn_a1, hcz_a1⟩ := cell_facts hb0_38 (by first | omega | (rw [List.length_append]; omega)) hz
    have hD_a1 := hd_41.c
    refine xe0 7 [(0, .slice A ca.length c), (1, .slice D cb.length d), (6, pw x1 0), (8, .nilIface), (9, pw y1 0), (13, pw a1 0)] ?_
    refine nl (sq (sq (rg (xr0 5 [(81, .bool false), (82, pw a1 0), (83, pw x1 0)] [8, 13] ?_))))
    have hB_43 : Below w_9.heap.size w_9 w_36 := (bt (bt (bt (bt (bt hb_16 hb_22) hb_31) hb_33) hb_35) hb_37)
    refine xc 21 ent21 [.pointer (some ⟨a1, 0, none⟩), .pointer (some ⟨x1, 0, none⟩)] (dsame_any a1 x1 (B.can (List.map B.opC ca)) (B.can (List.map B.opC ca)) _ hD_a1 (hD_x1.below hB_43) hcb_a1 hcn_a1 hcz_a1 hcb_x1 hcn_x1 hcz_x1) ?_
    rintro e w_44 ⟨rfl, hb_45⟩; refine ⟨_, rfl, ?_⟩
    rw [(opsEqP_iff _ _).2 rfl]
    refine xr0 5 [(87, .bool false), (88, pw x1 0), (89, pw y1 0)] [81, 82, 83, 84] ?_
    have hB_46 : Below w_15.heap.size w_15 w_44 := (bt (bt (bt (bt (bt hb_22 hb_31) hb_33) hb_35) hb_37) hb_45)
    refine xc 21 ent21 [.pointer (some ⟨x1, 0, none⟩), .pointer (some ⟨y1, 0, none⟩)] (dsame_any x1 y1 (B.can (List.map B.opC ca)) (B.can (List.map B.opC cb)) _ (hD_x1.below (bt hB_43 hb_45)) (hD_y1.below hB_46) hcb_x1 hcn_x1 hcz_x1 hcb_y1 hcn_y1 hcz_y1) ?_
    rintro e w_47 ⟨rfl, hb_48⟩; refine ⟨_, rfl, ?_⟩
    rw [show opsEqP (B.can (List.map B.opC ca)) (B.can (List.map B.opC cb)) = csEqP ca cb from by rw [Bool.eq_iff_iff, opsEqP_iff, csEqP_iff]; exact doc_inj hb0_11 hb0_17 hn hm]
    refine xr0 2 [(90, .bool (csEqP ca cb)), (91, .slice A ca.length c), (92, .slice D cb.length d)] [88, 89] ?_
    refine xc 12 ent12 [.slice A ca.length c, .slice D cb.length d] (r9list_any _ _ _ _ ca cb _ (Kd.C_below hx (bt (bt (bt hB_42 hb_37) hb_45) hb_48)) (Kd.C_below hy (bt (bt (bt hB_42 hb_37) hb_45) hb_48))) ?_
    rintro e w_49 ⟨rfl, hb_50⟩; refine ⟨_, rfl, ?_⟩
    refine xr 2 [(94, .eq (.bool false))] [(95, .bool false)] [87, 90, 91, 92, 93] [Value.bool ((csEqP ca cb) != (csEqP ca cb)) = Value.bool false] ⟨congrArg Value.bool (bne_self_eq_false _), trivial⟩ ?_
    refine nl (cf (sk (sq (rg (xw 1 [] [(97, .slice (some ⟨w_49.heap.size, 0, none⟩) 0 0)] [95] (w_49.alloc (.cells #[] 44)) [] trivial ?_)))))
    obtain ⟨w_51, hw_55, hb_52, hk_53, hz_54⟩ := new_world w_49 #[] 44
    rw [hw_55]
    refine xe0 1 [(1, .slice D cb.length d), (6, pw x1 0), (9, pw y1 0), (97, .slice (some ⟨w_49.heap.size, 0, none⟩) 0 0), (98, .slice A ca.length c)] ?_
    have hr_56 := Kd.R_litB kCell (W := w_49) (e := 44) (cs := #[]) [] hk_53 (repsCell0) (Nat.le_of_ble_eq_true (by kernel_rfl))
    obtain ⟨vs_57, hC_58, hK_59⟩ := Kd.C_raw (d := kCell) cell0 hx
    have hB_66 : Below w.heap.size w w_51 := (bt (bt (bt (bt (bt hB_42 hb_37) hb_45) hb_48) hb_50) hb_52)
    refine XL_appendMixK (d := kCell) (W0 := w) (B := w_49.heap.size) (c' := c) (m := ca.length) cell0 rfl rfl rfl 44 (.agg #[.int .i32 0, .string ByteArray.empty, .int .i64 0, .int .i64 0, .string ByteArray.empty, .slice none 0 0]) 80 Tryd.underlying28 info44 rfl (by decide) (by omega) [] ca vs_57 (by kernel_rfl) (MixK.nil (z := cell0) (B := w_49.heap.size) (W0 := w) hr_56 (Nat.le_refl _)) (Kd.C_below hC_58 hB_66) rfl hK_59 (hb_52).size (by first | omega | (simp only [List.length_nil]; omega)) ?_
    intro A_60 c_61 w_62 hm_63 hg_64 hl_65
    rw [List.nil_append] at hm_63 ⊢
    have hB_68 : Below w.heap.size w w_49 := (bt (bt (bt (bt hB_42 hb_37) hb_45) hb_48) hb_50)
    have hC_67 : kCell.C w_62 A_60 ca.length ca := MixK.C hm_63 (bgo hB_66 hg_64 hl_65 (hB_68).size)
    refine xr0 1 [(99, .slice A_60 ca.length c_61), (100, .slice D cb.length d)] [1, 97, 98] ?_
    obtain ⟨vs_69, hC_70, hK_71⟩ := Kd.C_raw (d := kCell) cell0 hy
    refine XL_appendMixK (d := kCell) (W0 := w) (B := w_49.heap.size) (c' := d) (m := cb.length) cell0 rfl rfl rfl 44 (.agg #[.int .i32 0, .string ByteArray.empty, .int .i64 0, .int .i64 0, .string ByteArray.empty, .slice none 0 0]) 80 Tryd.underlying28 info44 rfl (by decide) (by omega) ca cb vs_69 (by kernel_rfl) hm_63 (Kd.C_below hC_70 (bgo hB_66 hg_64 hl_65 (hB_68).size)) rfl hK_71 ((bgo hb_52 hg_64 hl_65 (Nat.le_refl _))).size (by first | omega | (simp only [List.length_nil]; omega)) ?_
    intro A_72 c_73 w_74 hm_75 hg_76 hl_77
    have hB_79 : Below w.heap.size w w_74 := (bgo (bgo hB_66 hg_64 hl_65 (hB_68).size) hg_76 hl_77 (hB_68).size)
    have hC_78 : kCell.C w_74 A_72 (ca ++ cb).length (ca ++ cb) := MixK.C hm_75 hB_79
    refine xc 19 ent19 [.slice A_72 ((ca ++ cb).length) c_73] (c9of_any _ _ (ca ++ cb) _ hC_78 (MixK.len hm_75).2 (by first | omega | (rw [List.length_append]; omega)) hz2_ (hT.below hB_79) es (hO.below hB_79)) ?_
    rintro e w_80 ⟨hb_81, ⟨hb0_82, b1, A_83, c_84, rfl, hd_85⟩ | ⟨hb0_82, rfl⟩⟩
    ·refine ⟨_, rfl, ?_⟩
     obtain ⟨hcb_b1, hcn_b1, hcz_b1⟩ := cell_facts hb0_82 (by first | omega | (rw [List.length_append]; omega)) hz2_
     have hD_b1 := hd_85.c
     refine xr0 7 [(8, .nilIface), (15, pw b1 0)] [99, 100, 101, 102] ?_
     refine nl (sq (rg (xr0 2 [(107, pw x1 0), (108, pw y1 0)] [6, 9] ?_)))
     have hB_86 : Below w_9.heap.size w_9 w_80 := (bt (bgo (bgo (bt (bt (bt (bt hB_43 hb_45) hb_48) hb_50) hb_52) hg_64 hl_65 ((bt (bt (bt hB_43 hb_45) hb_48) hb_50)).size) hg_76 hl_77 ((bt (bt (bt hB_43 hb_45) hb_48) hb_50)).size) hb_81)
     have hB_87 : Below w_15.heap.size w_15 w_80 := (bt (bgo (bgo (bt (bt (bt hB_46 hb_48) hb_50) hb_52) hg_64 hl_65 ((bt (bt hB_46 hb_48) hb_50)).size) hg_76 hl_77 ((bt (bt hB_46 hb_48) hb_50)).size) hb_81)
     refine xc 22 ent22 [.pointer (some ⟨x1, 0, none⟩), .pointer (some ⟨y1, 0, none⟩)] (mconcat_any x1 y1 (B.can (List.map B.opC ca)) (B.can (List.map B.opC cb)) _ (hD_x1.below hB_86) (hD_y1.below hB_87) hcb_x1 hcn_x1 hcz_x1 hcb_y1 hcn_y1 hcz_y1 hbof_ htx_ (hT.below (bt hB_79 hb_81)) es (hO.below (bt hB_79 hb_81))) ?_
     rintro e w_88 ⟨j1, A_90, c_91, rfl, hd_92, hb_89⟩; refine ⟨_, rfl, ?_⟩
     rw [can_two hb0_11 hb0_17 (by omega) (by omega)] at hd_92
     have hD_j1 := hd_92.c
     refine xr0 5 [(11, .nilIface), (17, pw j1 0)] [107, 108, 109] ?_
     refine nl (sq (rg (xe0 9 [(118, .bool true), (119, pw b1 0), (120, pw j1 0)] ?_)))
     refine xc 21 ent21 [.pointer (some ⟨b1, 0, none⟩), .pointer (some ⟨j1, 0, none⟩)] (dsame_any b1 j1 (B.can (List.map B.opC (ca ++ cb))) (B.can (List.map B.opC (ca ++ cb))) _ (hD_b1.below hb_89) hD_j1 hcb_b1 hcn_b1 hcz_b1 hcb_b1 hcn_b1 hcz_b1) ?_
     rintro e w_93 ⟨rfl, hb_94⟩; refine ⟨_, rfl, ?_⟩
     rw [(opsEqP_iff _ _).2 rfl]
     refine xe0 2 [(4, .bool true)] ?_
     refine nl (X_ret (rk [.bool true] (hR_ _ _ ?_)))
     exact ⟨rfl, (bt (bt (bt hB_79 hb_81) hb_89) hb_94)⟩
    exact absurd hof2_ hb0_82
   exact absurd hb0_11 hb0_38
  refine ⟨_, rfl, ?_⟩
  rw [errV_pos es _ (Nat.pos_of_ne_zero hb0_17)]
  refine xr0 7 [(9, .pointer none), (11, .iface 164 (.pointer (some (errAt es ((B.cOf cb).2)))))] [37, 38] ?_
  refine nl (sq (sq (rg (xr0 6 [(47, .bool true)] [8, 11] ?_))))
  refine nl (ct (sq (rg (xe0 1 [(4, .bool true)] ?_))))
  refine nl (X_ret (rk [.bool true] (hR_ _ _ ?_)))
  have hB_95 : Below w.heap.size w w_15 := (bt (bt (bt (bt hb_2 hb_4) hb_7) hb_10) hb_16)
  exact ⟨rfl, hB_95⟩
 refine ⟨_, rfl, ?_⟩
 rw [errV_pos es _ (Nat.pos_of_ne_zero hb0_11)]
 refine xr0 7 [(6, .pointer none), (8, .iface 164 (.pointer (some (errAt es ((B.cOf ca).2)))))] [31, 32] ?_
 refine nl (sq (rg (xr0 1 [(37, .slice D cb.length d)] [] ?_)))
 refine xc 19 ent19 [.slice D cb.length d] (c9of_any _ _ cb _ (Kd.C_below hy (bt (bt (bt hb_2 hb_4) hb_7) hb_10)) hyc (by first | omega | (rw [List.length_append]; omega)) hzb (hT.below (bt (bt (bt hb_2 hb_4) hb_7) hb_10)) es (hO.below (bt (bt (bt hb_2 hb_4) hb_7) hb_10))) ?_
 rintro e w_96 ⟨hb_97, ⟨hb0_98, y1, A_99, c_100, rfl, hd_101⟩ | ⟨hb0_98, rfl⟩⟩
 ·refine ⟨_, rfl, ?_⟩
  obtain ⟨hcb_y1, hcn_y1, hcz_y1⟩ := cell_facts hb0_98 (by first | omega | (rw [List.length_append]; omega)) hzb
  have hD_y1 := hd_101.c
  refine xr0 7 [(9, pw y1 0), (11, .nilIface)] [37, 38] ?_
  refine nl (sq (sq (rg (xr0 6 [(47, .bool true)] [8, 11] ?_))))
  refine nl (ct (sq (rg (xe0 1 [(4, .bool true)] ?_))))
  refine nl (X_ret (rk [.bool true] (hR_ _ _ ?_)))
  have hB_102 : Below w.heap.size w w_96 := (bt (bt (bt (bt hb_2 hb_4) hb_7) hb_10) hb_97)
  exact ⟨rfl, hB_102⟩
 refine ⟨_, rfl, ?_⟩
 rw [errV_pos es _ (Nat.pos_of_ne_zero hb0_98)]
 refine xr0 7 [(9, .pointer none), (11, .iface 164 (.pointer (some (errAt es ((B.cOf cb).2)))))] [37, 38] ?_
 refine nl (sq (sq (rg (xr0 6 [(47, .bool true)] [8, 11] ?_))))
 refine nl (ct (sq (rg (xe0 1 [(4, .bool true)] ?_))))
 refine nl (X_ret (rk [.bool true] (hR_ _ _ ?_)))
 have hB_103 : Below w.heap.size w w_96 := (bt (bt (bt (bt hb_2 hb_4) hb_7) hb_10) hb_97)
 exact ⟨rfl, hB_103⟩
end Go.Proofs.YtgphmfnkeolbcaaDoor
