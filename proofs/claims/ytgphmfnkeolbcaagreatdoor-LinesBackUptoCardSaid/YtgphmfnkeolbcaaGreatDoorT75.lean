import Derived.Test.YtgphmfnkeolbcaaGreatDoorMixP
import Derived.Test.YtgphmfnkeolbcaaGreatDoorO3
import Derived.Test.YtgphmfnkeolbcaaGreatDoorT72
import Derived.Test.YtgphmfnkeolbcaaGreatDoorClp
import Derived.Test.YtgphmfnkeolbcaaGreatDoorT67
/- vellumlaw21.lives. Conditions: the tables of utf8, the errors' variables. -/
set_option linter.unusedVariables false
set_option linter.unusedSimpArgs false
set_option maxRecDepth 100000
namespace Go.Proofs.YtgphmfnkeolbcaaGreatDoor
open Go Go.RowKit Go.Proofs.YtgphmfnkeolbcaaGreatDoorW.PrintWords RX
theorem ent33 : Ent Tryz.prog 33 := ent_of Tryz.func33 (by kernel_rfl) rfl
def lo21 : List OpA := [⟨1, (⟨#[97, 98, 10, 99, 10]⟩ : ByteArray), 0, 0, ByteArray.empty, 0, []⟩]
def lc21 : List CellA := [cellR [] 97, cellR [] 98, cellR [] 10, cellR [] 99, cellR [] 10]
def lls21 : List LineA := [⟨0, 2, [], (⟨#[97, 98]⟩ : ByteArray)⟩, ⟨3, 1, [], (⟨#[99]⟩ : ByteArray)⟩]
theorem lo21_can : B.can lo21 = lo21 := by kernel_rfl
theorem lo21_bad : badE lo21 = 0 := by kernel_rfl
theorem lo21_sc : U.sc (⟨#[97, 98, 10, 99, 10]⟩ : ByteArray) = [97, 98, 10, 99, 10] := (U.utf_of (rs := [97, 98, 10, 99, 10]) (fun r hr => by simp only [List.mem_cons, List.not_mem_nil, or_false] at hr; unfold U.vr; omega) (by kernel_rfl)).2
theorem lo21_cells : cellsAll lo21 = lc21 := by
 show cellsP _ ++ [] = _
 rw [cellsP_1 rfl, List.append_nil]
 show (U.sc (⟨#[97, 98, 10, 99, 10]⟩ : ByteArray)).map _ = _
 rw [lo21_sc]; rfl
theorem lo21_doc : isDoc lo21 = true := doc_of_mem fun o ho => by rw [List.mem_singleton.1 ho]; exact .inl rfl
theorem lo21_sums : sB lo21 = 0 ∧ sR lo21 = 5 := by
 refine ⟨?_, ?_⟩
 ·show opB _ + 0 = 0
  rw [B.opB_ins (.inl rfl)]; rfl
 show opR _ + 0 = 5
 rw [B.opR_txt rfl]
 show ((U.sc (⟨#[97, 98, 10, 99, 10]⟩ : ByteArray)).length : Int) + 0 = 5
 rw [lo21_sc]; rfl
theorem lo21_of : (B.bOf lo21).2 = 0 := by rw [B.bOf_of lo21_bad (by rw [lo21_sums.1]; decide) (by rw [lo21_sums.2]; decide)]
theorem lo21_sz : ∀ i, i < lo21.length → opSz (lo21.getD i op0) := by
 intro i hi
 match i, hi with
 | 0, _ => exact sz_lit (by decide)
 | k + 1, h => exact absurd h (by show ¬ k + 1 < 1; omega)
theorem lo21_err : lnErr lo21 = 0 := by unfold lnErr; rw [if_pos lo21_doc, lo21_cells]; kernel_rfl
theorem lo21_lns : lnOf lo21 = lls21 := by unfold lnOf; rw [lo21_err, lo21_cells]; kernel_rfl
theorem lo21_at : lnAt lo21 4 = (1, 1, 0) := by unfold lnAt; rw [lo21_err, lo21_lns]; kernel_rfl
theorem lo21_at1 : lnAt lo21 1 = (0, 1, 0) := by unfold lnAt; rw [lo21_err, lo21_lns]; kernel_rfl
theorem lo21_at3 : lnAt lo21 (1 + 3 - 1) = (1, 0, 0) := by unfold lnAt; rw [lo21_err, lo21_lns]; kernel_rfl
theorem lo21_place : lnPlace lo21 1 1 = (4, 0) := by unfold lnPlace; rw [lo21_err, lo21_lns]; kernel_rfl
theorem lo21_touched : lnTouched lo21 1 3 = (0, 1, 0) := by unfold lnTouched; rw [lo21_at1, lo21_at3, lo21_cells]; kernel_rfl
theorem lo21_text : lnText (cellsAll lo21) = (⟨#[97, 98, 10, 99, 10]⟩ : ByteArray) := by rw [lo21_cells]; kernel_rfl
def CntI (w : World) (g hi : Nat) (pre : List ElL) (M : Nat → Prop) (W : World) : Prop := RX.Blk W g 3 #[i6 (pre.length : Int)] ∧ M = (fun k => k = g) ∧ Below w.heap.size w W
theorem CntI.own {w : World} {g hi B : Nat} (h : w.heap.size ≤ B) (M : Nat → Prop) : OwnFrom B (fun s W => CntI w g hi s M W) := by
 rintro s W W' row ⟨h1, h2, h3⟩ hg hr
 exact ⟨RX.ownFrom_blk (β := Unit) (B := B) (fun _ => g) _ (fun _ => _) () W W' row h1 hg hr, h2, RX.ownFrom_below' (β := Unit) w h () W W' row h3 hg hr⟩
theorem CntI.im {w : World} {g lo hi : Nat} {pre : List ElL} {M : Nat → Prop} {W : World} (h : CntI w g hi pre M W) (h1 : g < lo) : ∀ k, M k → ¬ (lo ≤ k ∧ k < hi) ∧ k < W.heap.size := by
 obtain ⟨e1, rfl, e3⟩ := h
 rintro k rfl
 exact ⟨fun h => by omega, e1.lt⟩
set_option maxHeartbeats 2000000 in
theorem lives21_any (w : World) (hT : Tabs w) (es : List Addr) (hE : ErrsL w es) : Calls Tryz.prog 33 #[] w fun e w' => e = .returned bT ∧ Below w.heap.size w w' := by
 have hO : ErrsO w es := hE.o
 refine RX.enterM Tryz.func33 rfl 131 rfl [] rfl (by kernel_rfl) (fun R_ hR_ => ?_)
 refine RX.X_mark0 rfl ?_
 refine sg (xq 1 [] [(1000000, encD [])] w [] trivial ?_)
 refine nl (sg (xq 2 [] [(19, .slice (some ⟨w.heap.size, 0, none⟩) 1 1), (1000000, encD [])] (w.alloc (.cells #[i6 1, sT (⟨#[97, 98, 10, 99, 10]⟩ : ByteArray), i6 0, i6 0, s0, i6 0, .slice none 0 0] 102)) [] trivial ?_))
 obtain ⟨w_1, hw_5, hb_2, hk_3, hz_4⟩ := new_world w #[i6 1, sT (⟨#[97, 98, 10, 99, 10]⟩ : ByteArray), i6 0, i6 0, s0, i6 0, .slice none 0 0] 102
 rw [hw_5]
 have hr_6 := Kd.R_litB kOp (W := w) (e := 102) (cs := #[i6 1, sT (⟨#[97, 98, 10, 99, 10]⟩ : ByteArray), i6 0, i6 0, s0, i6 0, .slice none 0 0]) [(⟨1, (⟨#[97, 98, 10, 99, 10]⟩ : ByteArray), 0, 0, ByteArray.empty, 0, []⟩ : OpA)] hk_3 (repsOp0 [(⟨1, (⟨#[97, 98, 10, 99, 10]⟩ : ByteArray), 0, 0, ByteArray.empty, 0, []⟩ : OpA)] (by intro x hx; simp only [List.mem_cons, List.not_mem_nil, or_false] at hx; rcases hx with rfl <;> rfl)) (Nat.le_of_ble_eq_true (by kernel_rfl))
 refine xc 65 ent65 [.slice (some ⟨w.heap.size, 0, none⟩) 1 1] (bof_any _ 1 lo21 _ (Kd.R_C hr_6) (Nat.le_of_ble_eq_true rfl) (Nat.le_of_ble_eq_true rfl) lo21_sz (Nat.le_of_ble_eq_true (by kernel_rfl)) (hT.below hb_2) es (hO.below hb_2)) ?_
 rintro e w_7 ⟨hb_11, ⟨h0_12, d, A_8, c_9, rfl, hd_10⟩ | ⟨h0_12, rfl⟩⟩
 ·refine ⟨_, rfl, ?_⟩
  rw [lo21_can] at hd_10; have hD_ := hd_10.c
  refine xq 7 [] [(1, pw d 0), (3, .nilIface), (1000000, encD [])] w_7 [] trivial ?_
  refine nl (sq (sg (xq 6 [] [(1, pw d 0), (29, bF), (1000000, encD [])] w_7 [] trivial ?_)))
  refine nl (cf (sk (sg (xq 1 [] [(1, pw d 0), (31, pw d 0), (1000000, encD [])] w_7 [] trivial ?_))))
  refine xc 36 ent36 [pw d 0] (lines_any d lo21 _ hD_ lo21_bad (by rw [lo21_sums.1]; decide) (Nat.le_of_ble_eq_true rfl) lo21_sz (by rw [lo21_cells]; exact Nat.le_of_ble_eq_true rfl) (hT.below (bt hb_2 hb_11)) es (hE.below (bt hb_2 hb_11))) ?_
  rintro e w_19 ⟨A_13, c_14, ls_15, el_16, rfl, hl_17, hr_18, hb_20⟩; refine ⟨_, rfl, ?_⟩
  rw [lo21_lns] at el_16; rw [el_16] at hl_17 hr_18; rw [el_16, lo21_err, errV_zero]
  have hC_21 := Kd.R_C hr_18
  refine xq 5 [] [(1, pw d 0), (3, .nilIface), (4, aL A_13 lls21 c_14), (1000000, encD [])] w_19 [] trivial ?_
  refine nl (sg (xq 1 [] [(1, pw d 0), (3, .nilIface), (4, aL A_13 lls21 c_14), (36, pw d 0), (1000000, encD [])] w_19 [] trivial ?_))
  refine xc 45 ent45 [pw d 0, i6 4] (lat_any d lo21 4 _ (hD_.below hb_20) lo21_bad (by rw [lo21_sums.1]; decide) (Nat.le_of_ble_eq_true rfl) lo21_sz (by rw [lo21_cells]; exact Nat.le_of_ble_eq_true rfl) (hT.below (bt (bt hb_2 hb_11) hb_20)) es (hE.below (bt (bt hb_2 hb_11) hb_20)) (by decide)) ?_
  rintro e w_22 ⟨rfl, hb_23⟩; refine ⟨_, rfl, ?_⟩
  rw [lo21_at, errV_zero]
  refine xq 7 [] [(1, pw d 0), (3, .nilIface), (4, aL A_13 lls21 c_14), (5, i6 1), (6, i6 1), (7, .nilIface), (1000000, encD [])] w_22 [] trivial ?_
  refine nl (sg (xq 1 [] [(1, pw d 0), (3, .nilIface), (4, aL A_13 lls21 c_14), (5, i6 1), (6, i6 1), (7, .nilIface), (42, pw d 0), (1000000, encD [])] w_22 [] trivial ?_))
  refine xc 47 ent47 [pw d 0, i6 1, i6 1] (lplace_any d lo21 1 1 _ (hD_.below (bt hb_20 hb_23)) lo21_bad (by rw [lo21_sums.1]; decide) (Nat.le_of_ble_eq_true rfl) lo21_sz (by rw [lo21_cells]; exact Nat.le_of_ble_eq_true rfl) (hT.below (bt (bt (bt hb_2 hb_11) hb_20) hb_23)) es (hE.below (bt (bt (bt hb_2 hb_11) hb_20) hb_23))) ?_
  rintro e w_24 ⟨rfl, hb_25⟩; refine ⟨_, rfl, ?_⟩
  rw [lo21_place, errV_zero]
  refine xq 5 [] [(1, pw d 0), (3, .nilIface), (4, aL A_13 lls21 c_14), (5, i6 1), (6, i6 1), (7, .nilIface), (8, i6 4), (9, .nilIface), (1000000, encD [])] w_24 [] trivial ?_
  refine nl (sg (xq 1 [] [(1, pw d 0), (3, .nilIface), (4, aL A_13 lls21 c_14), (5, i6 1), (6, i6 1), (7, .nilIface), (8, i6 4), (9, .nilIface), (47, pw d 0), (1000000, encD [])] w_24 [] trivial ?_))
  have hB_26 : Below w.heap.size w w_24 := (bt (bt (bt (bt hb_2 hb_11) hb_20) hb_23) hb_25)
  refine xc 49 ent49 [pw d 0, i6 1, i6 3] (ltouched_any d lo21 1 3 _ (hD_.below (bt (bt hb_20 hb_23) hb_25)) lo21_bad (by rw [lo21_sums.1]; decide) (Nat.le_of_ble_eq_true rfl) lo21_sz (by rw [lo21_cells]; exact Nat.le_of_ble_eq_true rfl) (hT.below hB_26) es (hE.below hB_26) (by decide) (by decide)) ?_
  rintro e w_27 ⟨rfl, hb_28⟩; refine ⟨_, rfl, ?_⟩
  rw [lo21_touched, errV_zero]
  refine xq 7 [] [(1, pw d 0), (3, .nilIface), (4, aL A_13 lls21 c_14), (5, i6 1), (6, i6 1), (7, .nilIface), (8, i6 4), (9, .nilIface), (10, i6 0), (11, i6 1), (12, .nilIface), (1000000, encD [])] w_27 [] trivial ?_
  refine nl (sg (xq 1 [] [(1, pw d 0), (3, .nilIface), (4, aL A_13 lls21 c_14), (5, i6 1), (6, i6 1), (7, .nilIface), (8, i6 4), (9, .nilIface), (10, i6 0), (11, i6 1), (12, .nilIface), (53, pw d 0), (1000000, encD [])] w_27 [] trivial ?_))
  refine xc 38 ent38 [pw d 0] (lntext_any d lo21 _ (hD_.below (bt (bt (bt hb_20 hb_23) hb_25) hb_28)) lo21_bad (by rw [lo21_sums.1]; decide) (Nat.le_of_ble_eq_true rfl) lo21_sz (by rw [lo21_cells]; exact Nat.le_of_ble_eq_true rfl) (hT.below (bt hB_26 hb_28)) es (hE.below (bt hB_26 hb_28))) ?_
  rintro e w_29 ⟨rfl, hb_30⟩; refine ⟨_, rfl, ?_⟩
  rw [if_pos lo21_doc, if_pos lo21_doc, lo21_text, errV_zero]
  refine xq 5 [] [(1, pw d 0), (3, .nilIface), (4, aL A_13 lls21 c_14), (5, i6 1), (6, i6 1), (7, .nilIface), (8, i6 4), (9, .nilIface), (10, i6 0), (11, i6 1), (12, .nilIface), (13, sT (⟨#[97, 98, 10, 99, 10]⟩ : ByteArray)), (14, .nilIface), (1000000, encD [])] w_29 [] trivial ?_
  refine nl (sg (xq 1 [] [(1, pw d 0), (3, .nilIface), (4, aL A_13 lls21 c_14), (5, i6 1), (6, i6 1), (7, .nilIface), (8, i6 4), (9, .nilIface), (10, i6 0), (11, i6 1), (12, .nilIface), (13, sT (⟨#[97, 98, 10, 99, 10]⟩ : ByteArray)), (14, .nilIface), (15, pw w_29.heap.size 0), (1000000, encD [])] (w_29.alloc (.cells #[i6 0] 3)) [] trivial ?_))
  obtain ⟨w_31, hw_35, hb_32, hk_33, hz_34⟩ := new_world w_29 #[i6 0] 3
  rw [hw_35]
  refine xst (i6 0) hk_33 0 #[i6 0] (fun w_36 hg_37 hk_38 hz_39 => ?_)
  refine nl (sg (xq 1 [] [(3, .nilIface), (4, aL A_13 lls21 c_14), (5, i6 1), (6, i6 1), (7, .nilIface), (8, i6 4), (9, .nilIface), (10, i6 0), (11, i6 1), (12, .nilIface), (13, sT (⟨#[97, 98, 10, 99, 10]⟩ : ByteArray)), (14, .nilIface), (15, pw w_29.heap.size 0), (57, pw d 0), (1000000, encD [])] w_36 [] trivial ?_))
  have hB_52 : Below w_7.heap.size w_7 w_29 := (bt (bt (bt (bt hb_20 hb_23) hb_25) hb_28) hb_30)
  have hB_53 : Below w_7.heap.size w_7 w_36 := (bg (bt (bt (bt (bt (bt hb_20 hb_23) hb_25) hb_28) hb_30) hb_32) hg_37 (hB_52).size)
  have hB_54 : Below w.heap.size w w_36 := (bg (bt (bt (bt hB_26 hb_28) hb_30) hb_32) hg_37 ((bt (bt hB_26 hb_28) hb_30)).size)
  refine xc 42 ent42 [pw d 0] (leach_any d lo21 _ (hD_.below hB_53) lo21_bad (by rw [lo21_sums.1]; decide) (Nat.le_of_ble_eq_true rfl) lo21_sz (by rw [lo21_cells]; exact Nat.le_of_ble_eq_true rfl) (hT.below hB_54) es (hE.below hB_54)) ?_
  rintro e w_55 ⟨g_44, A_45, c_46, ls_47, el_48, rfl, hge_49, hk_50, hr_51, hb_56⟩; refine ⟨_, rfl, ?_⟩
  rw [lo21_lns] at el_48; rw [el_48] at hk_50 hr_51
  have hr9_ : kLine.R 78 w_55 w_36.heap.size (fun k_ => w_36.heap.size ≤ k_ ∧ k_ < w_55.heap.size) (aL A_45 lls21 c_46) lls21 := Kd.R_mono (Kd.R_bound hr_51) (fun k_ hk_ => ⟨hk_.2.1, hk_.2.2.1⟩)
  refine xq 1 [] [(3, .nilIface), (4, aL A_13 lls21 c_14), (5, i6 1), (6, i6 1), (7, .nilIface), (8, i6 4), (9, .nilIface), (10, i6 0), (11, i6 1), (12, .nilIface), (13, sT (⟨#[97, 98, 10, 99, 10]⟩ : ByteArray)), (14, .nilIface), (15, pw w_29.heap.size 0), (16, .func (.func 109) #[] #[pw g_44 0]), (1000000, encD [])] w_55 [] trivial ?_
  refine nl (sq (sg (xq 2 [] [(3, .nilIface), (4, aL A_13 lls21 c_14), (5, i6 1), (6, i6 1), (7, .nilIface), (8, i6 4), (9, .nilIface), (10, i6 0), (11, i6 1), (12, .nilIface), (13, sT (⟨#[97, 98, 10, 99, 10]⟩ : ByteArray)), (14, .nilIface), (15, pw w_29.heap.size 0), (16, .func (.func 109) #[] #[pw g_44 0]), (60, bF), (1000000, encD [])] w_55 [] trivial ?_)))
  refine nl (cf (sk (sq (sg (xq 1 [] [(3, .nilIface), (4, aL A_13 lls21 c_14), (5, i6 1), (6, i6 1), (7, .nilIface), (8, i6 4), (9, .nilIface), (10, i6 0), (11, i6 1), (12, .nilIface), (13, sT (⟨#[97, 98, 10, 99, 10]⟩ : ByteArray)), (14, .nilIface), (15, pw w_29.heap.size 0), (61, .func (.func 109) #[] #[pw g_44 0]), (1000000, encD [])] w_55 [] trivial ?_)))))
  refine nl (X_block ?_)
  have hc15_ : w_29.heap.size < w_36.heap.size := Nat.lt_of_lt_of_le (Blk.lt hk_38) (Nat.le_refl _)
  have hlh_ : w_36.heap.size ≤ w_55.heap.size := (hb_56).size
  have hhW_ : w_55.heap.size ≤ w_55.heap.size := (Nat.le_refl _)
  have hB_57 : Below w_29.heap.size w_29 w_55 := (bt (bg hb_32 hg_37 (Nat.le_refl _)) hb_56)
  refine X_rangeM (α := ElL) (ι := Unit) rfl ent109 (encs := elLV) (leach_seq (fun k_ => w_36.heap.size ≤ k_ ∧ k_ < w_55.heap.size) (fun k_ => w_36.heap.size ≤ k_ ∧ k_ < w_55.heap.size) w_36.heap.size g_44 A_45 c_46 lls21 w_55 hr9_ (fun _ h_ => h_) (fun k_ h_ => by omega) (by decide) (fun l_ h_ => by rcases List.mem_cons.1 h_ with rfl | h_; (· exact Nat.zero_le _); (· rw [List.mem_singleton.1 h_]; exact Nat.zero_le _)) hk_50) (Below.refl _ _) (fun k_ h_ => by omega) (fun _ => rfl) (by kernel_rfl) (fun pre_ M_ W_ => CntI w_29 w_29.heap.size w_55.heap.size pre_ M_ W_) (fun c_ pre_ W_ => False) (fun M_ => CntI.own (hB_57).size M_) (fun _ => RX.ownFrom_pure _) (fun _ _ _ h_ => CntI.im h_ hc15_) (fun k_ => k_ = w_29.heap.size) ⟨(Blk.below hk_38 hb_56), rfl, hB_57⟩ (fun x_ i_ W_ => True) (fun _ => RX.ownFrom_pure _) (fun x_ i_ => [(3, .nilIface), (4, aL A_13 lls21 c_14), (5, i6 1), (6, i6 1), (7, .nilIface), (8, i6 4), (9, .nilIface), (10, i6 0), (11, i6 1), (12, .nilIface), (13, sT (⟨#[97, 98, 10, 99, 10]⟩ : ByteArray)), (14, .nilIface), (15, pw w_29.heap.size 0)]) ?_ ?_ ?_ ?_
  ·rintro lp_ pre_ M_ x_ W_ hlp_ hws_ ⟨hk15_, hM_, hBw_⟩ hpx_ hlen_
   have hg15l_ := hk15_.lt
   have hl2_ : lls21.length = 2 := rfl
   refine XI_keep [3, 4, 5, 6, 7, 8, 9, 10, 11, 12, 13, 14, 15, 61, 62, 63] [(3, .nilIface), (4, aL A_13 lls21 c_14), (5, i6 1), (6, i6 1), (7, .nilIface), (8, i6 4), (9, .nilIface), (10, i6 0), (11, i6 1), (12, .nilIface), (13, sT (⟨#[97, 98, 10, 99, 10]⟩ : ByteArray)), (14, .nilIface), (15, pw w_29.heap.size 0), (61, .func (.func 109) #[] #[pw g_44 0]), (62, i6 x_.1), (63, .agg #[i6 x_.2.1.from_, i6 x_.2.1.len, .slice x_.2.2.1 x_.2.1.attrs.length x_.2.2.2, sT x_.2.1.text])] (by kernel_rfl) ?_
   refine XI_skip ?_
   exact ⟨(), by kernel_rfl, KeepsFrom.refl _ _, KpM.refl _ _ _, ⟨hk15_, hM_, hBw_⟩, trivial⟩
  ·rintro lp_ pre_ M_ x_ i_ W_ hlp_ hws_ ⟨hk15_, hM_, hBw_⟩ _ hlen_
   have hg15l_ := hk15_.lt
   have hl2_ : lls21.length = 2 := rfl
   refine XI_block ?_
   refine XI_region (by kernel_rfl) (fun _ _ h_ => h_) ?_
   refine xq 2 [(64, .load (i6 (pre_.length : Int))), (65, .eq (i6 ((pre_.length : Int) + 1)))] [(3, .nilIface), (4, aL A_13 lls21 c_14), (5, i6 1), (6, i6 1), (7, .nilIface), (8, i6 4), (9, .nilIface), (10, i6 0), (11, i6 1), (12, .nilIface), (13, sT (⟨#[97, 98, 10, 99, 10]⟩ : ByteArray)), (14, .nilIface), (15, pw w_29.heap.size 0), (65, i6 ((pre_.length : Int) + 1))] W_ [la 3 (⟨w_29.heap.size, 0, none⟩) (i6 (pre_.length : Int)) W_, i6 (IntKind.i64.wrap ((pre_.length : Int) + 1)) = i6 ((pre_.length : Int) + 1)] ⟨loads1 rfl (Blk.cell hk15_ 0 _ rfl), wr_i64 (by omega) (by omega), trivial⟩ ?_
   refine xst (i6 ((pre_.length : Int) + 1)) hk15_ 0 #[i6 ((pre_.length : Int) + 1)] (fun w_58 hg_59 hk_60 hz_61 => ?_)
   refine nl ?_
   have hDw_ : ∀ k_, (fun k_ => w_36.heap.size ≤ k_ ∧ k_ < w_55.heap.size) k_ → k_ < W_.heap.size := fun k_ h_ => by omega
   exact ⟨(keeps_store hk15_ hg_59), M_, (KpM.grown hg_59 (fun k_ e_ => by injection e_ with e_; subst e_; exact ⟨by rw [hM_], fun h_ => by omega⟩) (fun k_ h_ => Nat.lt_of_lt_of_le (hDw_ k_ h_) (Nat.le_refl _))), (fun k_ h_ => .inl h_), ⟨by rw [List.length_append, List.length_singleton]; exact hk_60, hM_, (bg hBw_ hg_59 (Nat.le_refl _))⟩⟩
  ·rintro D_63 pre_ M_ w_62 hD_64 hS_65 ⟨hk15_, hM_, hBw_⟩ hK_66
   have hg15l_ := hk15_.lt
   have hl2_ : lls21.length = 2 := rfl
   have hall_ : pre_.length = 2 := hS_65.2
   rw [hall_] at hk15_
   have hds_ : Defs (D_63 :: []) w_62 := Defs.cons hK_66 (fun _ h_ => by cases h_)
   have hdge_ : ∀ D_ ∈ D_63 :: [], w_55.heap.size ≤ D_ := fun D_ hm_ => (List.mem_cons.1 hm_).elim (fun e_ => by omega) (fun h_ => by cases h_)
   refine sg (xq 9 [(71, .eq bT)] [(4, aL A_13 lls21 c_14), (5, i6 1), (6, i6 1), (7, .nilIface), (8, i6 4), (9, .nilIface), (10, i6 0), (11, i6 1), (12, .nilIface), (13, sT (⟨#[97, 98, 10, 99, 10]⟩ : ByteArray)), (14, .nilIface), (15, pw w_29.heap.size 0), (73, bT), (74, aL A_13 lls21 c_14), (1000000, encD (D_63 :: []))] w_62 [Value.bool ((lls21.length : Int) == 2) = bT] ⟨congrArg Value.bool (beq_iff_eq.2 ((by rfl))), trivial⟩ ?_)
   have hB_67 : Below w_19.heap.size w_19 w_62 := (bt (bt (bt (bt hb_23 hb_25) hb_28) hb_30) hBw_)
   obtain ⟨ad_68, B_71, c_72, ha_69, hc_70, hl_73, hC_74⟩ := RX.Kd.atLine (Kd.C_below hC_21 hB_67) (i := (1 : Int)) (by decide) (by decide)
   replace hc_70 : CellsAt w_62 (ad_68.add ((1 : Int).toNat * 4)) [i6 ((lls21.getD 1 line0).from_), i6 ((lls21.getD 1 line0).len), .slice B_71 ((lls21.getD 1 line0).attrs.length) c_72, sT ((lls21.getD 1 line0).text)] := hc_70
   replace hl_73 : (lls21.getD 1 line0).attrs.length ≤ c_72 := hl_73
   replace hC_74 : kAttr.C w_62 B_71 ((lls21.getD 1 line0).attrs.length) (lls21.getD 1 line0).attrs := hC_74
   refine xq 7 [(75, .idx ad_68), (77, .load (i6 ((lls21.getD 1 line0).from_))), (78, .eq bT)] [(5, i6 1), (6, i6 1), (7, .nilIface), (8, i6 4), (9, .nilIface), (10, i6 0), (11, i6 1), (12, .nilIface), (13, sT (⟨#[97, 98, 10, 99, 10]⟩ : ByteArray)), (14, .nilIface), (15, pw w_29.heap.size 0), (80, bT), (81, aL A_13 lls21 c_14), (1000000, encD (D_63 :: []))] w_62 [A_13 = some ad_68, (0 : Int) ≤ 1, 1 < (lls21.length : Int), la 3 (ad_68.add ((1 : Int).toNat * 4)) (i6 ((lls21.getD 1 line0).from_)) w_62, Value.bool ((lls21.getD 1 line0).from_ == 3) = bT] ⟨ha_69, (by decide), (by decide), loads1 rfl (elem_cell hc_70 0 _ rfl), congrArg Value.bool (beq_iff_eq.2 ((by rfl))), trivial⟩ ?_
   obtain ⟨ad_75, B_78, c_79, ha_76, hc_77, hl_80, hC_81⟩ := RX.Kd.atLine (Kd.C_below hC_21 hB_67) (i := (1 : Int)) (by decide) (by decide)
   replace hc_77 : CellsAt w_62 (ad_75.add ((1 : Int).toNat * 4)) [i6 ((lls21.getD 1 line0).from_), i6 ((lls21.getD 1 line0).len), .slice B_78 ((lls21.getD 1 line0).attrs.length) c_79, sT ((lls21.getD 1 line0).text)] := hc_77
   replace hl_80 : (lls21.getD 1 line0).attrs.length ≤ c_79 := hl_80
   replace hC_81 : kAttr.C w_62 B_78 ((lls21.getD 1 line0).attrs.length) (lls21.getD 1 line0).attrs := hC_81
   refine xq 50 [(82, .idx ad_75), (84, .load (sT ((lls21.getD 1 line0).text))), (85, .eq bT), (128, .load (i6 2))] [(0, bT), (1000000, encD (D_63 :: []))] w_62 [A_13 = some ad_75, (0 : Int) ≤ 1, 1 < (lls21.length : Int), la 9 ((ad_75.add ((1 : Int).toNat * 4)).add 3) (sT ((lls21.getD 1 line0).text)) w_62, Value.bool (((lls21.getD 1 line0).text).toList == (⟨#[99]⟩ : ByteArray).toList) = bT, la 3 (⟨w_29.heap.size, 0, none⟩) (i6 2) w_62] ⟨ha_76, (by decide), (by decide), loads1 rfl (elem_cell hc_77 3 _ rfl), congrArg Value.bool (strEqT ((by rfl))), loads1 rfl (Blk.cell hk15_ 0 _ rfl), trivial⟩ ?_
   refine nl (X_ret (RX.retM_ok (P := Tryz.prog) (fn := Tryz.f33) (N := 131) (R := R_) (ds := (D_63 :: [])) (dsOf_enc (by kernel_rfl)) (List.nodup_cons.2 ⟨fun h_ => (by cases h_), List.nodup_nil⟩) hds_ [bT] (by kernel_rfl) (fun w_ ho_ => hR_ _ _ ?_)))
   exact ⟨rfl, Off.below ho_ (bt (bt (bt hB_26 hb_28) hb_30) hBw_) (fun D_ hm_ => Nat.le_trans ((bt hB_54 hb_56)).size (hdge_ D_ hm_))⟩
  rintro D_83 c_ pre_ w_82 hD_84 hS_85 hix_ hK_86
  exact hix_.elim
 exact absurd lo21_of h0_12
theorem ent51 : Ent Tryz.prog 51 := ent_of Tryz.func51 (by kernel_rfl) rfl
noncomputable def insOf (xs : List OpA) : List OpA := xs.filter (fun o => decide (o.kind = 1 ∨ o.kind = 2))
theorem insOf_yes {xs : List OpA} {i : Nat} (hi : i < xs.length) (h : (xs.getD i op0).kind = 1 ∨ (xs.getD i op0).kind = 2) : insOf (xs.take (i + 1)) = insOf (xs.take i) ++ [xs.getD i op0] := by
 rw [take_snocD op0 xs i hi]; unfold insOf; rw [List.filter_append, List.filter_cons, if_pos (decide_eq_true h)]; rfl
theorem insOf_no {xs : List OpA} {i : Nat} (hi : i < xs.length) (h1 : ¬ (xs.getD i op0).kind = 1) (h2 : ¬ (xs.getD i op0).kind = 2) : insOf (xs.take (i + 1)) = insOf (xs.take i) := by
 rw [take_snocD op0 xs i hi]; unfold insOf; rw [List.filter_append, List.filter_cons, if_neg (by rw [decide_eq_true_eq]; exact fun h => h.elim h1 h2), List.filter_nil, List.append_nil]
theorem insOf_len (xs : List OpA) : (insOf xs).length ≤ xs.length := List.length_filter_le _ _
theorem insOf_mem {xs : List OpA} {o : OpA} (h : o ∈ insOf xs) : o ∈ xs ∧ (o.kind = 1 ∨ o.kind = 2) := by
 have := List.mem_filter.1 h
 exact ⟨this.1, of_decide_eq_true this.2⟩
theorem insOf_sz {xs : List OpA} (hz : ∀ i, i < xs.length → opSz (xs.getD i op0)) : ∀ i, i < (insOf xs).length → opSz ((insOf xs).getD i op0) := fun i hi => by
 obtain ⟨h1, _⟩ := insOf_mem (getD_mem op0 hi)
 obtain ⟨j, hj, e⟩ := List.getElem_of_mem h1
 have := hz j hj
 rwa [List.getD_eq_getElem?_getD, List.getElem?_eq_getElem hj, Option.getD_some, e] at this
theorem insOf_tx : ∀ xs : List OpA, B.txS (insOf xs) ≤ B.txS xs
 | [] => Nat.le_refl _
 | o :: r => by
  have h := insOf_tx r
  unfold insOf at h ⊢
  rw [List.filter_cons]
  split
  ·simp only [B.txS]; omega
  simp only [B.txS]; omega
theorem insOf_doc (xs : List OpA) : isDoc (B.can (insOf xs)) = true := doc_of_mem (can_ins fun _ h => (insOf_mem h).2)
theorem fine_all3 {xs : List OpA} (hz : ∀ i, i < xs.length → opSz (xs.getD i op0)) : ∀ o ∈ xs, B.fine o := fun o ho => by
 obtain ⟨i, hi, rfl⟩ := List.getElem_of_mem ho
 have := hz i hi
 rw [List.getD_eq_getElem?_getD, List.getElem?_eq_getElem hi] at this
 exact B.fine_of this
set_option maxHeartbeats 1000000 in
theorem mdocu_any (A : Option Addr) (c : Nat) (xs : List OpA) (w : World) (hx : kOp.C w A xs.length xs) (hxc : xs.length ≤ c) (hn : xs.length ≤ 500000) (hz : ∀ i, i < xs.length → opSz (xs.getD i op0)) (ht : B.txS xs ≤ 50000000) (hT : Tabs w) (es : List Addr) (hO : ErrsO w es) : Calls Tryz.prog 51 #[.slice A xs.length c] w fun e w' => Below w.heap.size w w' ∧ (((B.bOf (insOf xs)).2 = 0 ∧ ∃ d A1 c1 A2 c2 wm, e = .returned (.tuple #[pw d 0, .slice A2 (B.can (insOf xs)).length c2, bT]) ∧ Below w.heap.size w wm ∧ Below wm.heap.size wm w' ∧ DeltaR w' wm.heap.size d A1 c1 (B.can (insOf xs)) ∧ MixK kOp op0 102 wm.heap.size wm w' A2 (B.can (insOf xs)).length c2 (B.can (insOf xs))) ∨ ((B.bOf (insOf xs)).2 ≠ 0 ∧ e = .returned (.tuple #[.pointer none, .slice none 0 0, bF]))) := by
 have hzI := insOf_sz hz
 have hlI := insOf_len xs
 have htI := insOf_tx xs
 refine en Tryz.func51 rfl 33 [(0, aL A xs c)] (fun R_ hR_ => ?_)
 refine sg (xe0 3 [(0, aL A xs c)] ?_)
 refine nl (sg (xw 1 [] [(8, .slice (some ⟨w.heap.size, 0, none⟩) 0 0)] [] (w.alloc (.cells #[] 102)) [] trivial ?_))
 obtain ⟨w_1, hw_5, hb_2, hk_3, hz_4⟩ := new_world w #[] 102
 rw [hw_5]
 refine xr0 1 [(5, .slice (some ⟨w.heap.size, 0, none⟩) 0 0)] [8] ?_
 refine nl (sq (sg (xr0 3 [(9, aL A xs c), (10, i6 (xs.length : Int)), (11, i6 0)] [0] ?_)))
 refine nl (X_block ?_)
 have hr_6 := Kd.R_litB kOp (W := w) (e := 102) (cs := #[]) [] hk_3 (repsOp0 [] (fun _ h => by cases h)) (Nat.le_of_ble_eq_true (by kernel_rfl))
 refine X_loop (ι := Nat × Option Addr × Nat × Nat) (fun ⟨i, Q, nq, cq⟩ => [(5, .slice Q nq cq), (9, aL A xs c), (10, i6 (xs.length : Int)), (11, i6 (i : Int))]) (fun ⟨i, Q, nq, cq⟩ wl => i ≤ xs.length ∧ MixK kOp op0 102 w.heap.size w wl Q nq cq (insOf (xs.take i)) ∧ Below w.heap.size w wl) (fun ⟨i, Q, nq, cq⟩ => xs.length - i) (0, (some ⟨w.heap.size, 0, none⟩), 0, 0) ⟨Nat.zero_le _, (MixK.nil (z := op0) (B := w.heap.size) (W0 := w) hr_6 (Nat.le_refl _)), hb_2⟩ (by kernel_rfl) ?_
 rintro ⟨i, Q, nq, cq⟩ wl ⟨hi, hmx, HB⟩
 have hlt_ := insOf_len (xs.take i)
 rw [List.length_take] at hlt_
 have hnq := (MixK.len hmx).1
 refine sq (X_region ?_)
 by_cases c_8 : (i : Int) < (xs.length : Int)
 ·refine xr1 1 [(12, .eq bT)] [(12, bT)] [] (dT c_8) ?_
  refine nl (sq (ct (sk (sq (bk (sq (X_region ?_)))))))
  obtain ⟨ad_9, B_12, c_13, ha_10, hc_11, hl_14, hC_15⟩ := C_opK hx HB (i := (i : Int)) (by omega) (by omega)
  replace hc_11 : CellsAt wl (ad_9.add ((i : Int).toNat * 7)) (o7L (xs.getD i op0) (aL B_12 (xs.getD i op0).attrs c_13)) := hc_11
  replace hl_14 : (xs.getD i op0).attrs.length ≤ c_13 := hl_14
  replace hC_15 : kAttr.C w B_12 ((xs.getD i op0).attrs.length) (xs.getD i op0).attrs := hC_15
  refine xw 3 [(13, .idx ad_9), (14, .load (.agg (o7A (xs.getD i op0) (aL B_12 (xs.getD i op0).attrs c_13))))] [(7, pw wl.heap.size 0), (14, .agg (o7A (xs.getD i op0) (aL B_12 (xs.getD i op0).attrs c_13)))] [12] (wl.alloc (.cells #[i6 0, s0, i6 0, i6 0, s0, i6 0, .slice none 0 0] 102)) [A = some ad_9, (0 : Int) ≤ (i : Int), (i : Int) < (xs.length : Int), la 102 (ad_9.add ((i : Int).toNat * 7)) (.agg (o7A (xs.getD i op0) (aL B_12 (xs.getD i op0).attrs c_13))) wl] ⟨ha_10, (by omega), (by omega), loadsE rfl rfl hc_11 0 ⟨by kernel_rfl, by kernel_rfl⟩, trivial⟩ ?_
  obtain ⟨w_16, hw_20, hb_17, hk_18, hz_19⟩ := new_world wl #[i6 0, s0, i6 0, i6 0, s0, i6 0, .slice none 0 0] 102
  rw [hw_20]
  refine xst (.agg (o7A (xs.getD i op0) (aL B_12 (xs.getD i op0).attrs c_13))) hk_18 0 (o7A (xs.getD i op0) (aL B_12 (xs.getD i op0).attrs c_13)) (fun w_21 hg_22 hk_23 hz_24 => ?_)
  refine nl (sg (xr1 2 [(16, .load (i6 ((xs.getD i op0).kind)))] [(16, i6 ((xs.getD i op0).kind))] [14] (lc 3 hk_23 0) ?_))
  by_cases c_25 : (xs.getD i op0).kind = 1
  ·refine xr1 6 [(17, .eq bT)] [(22, bT)] [16] (bE c_25) ?_
   refine nl (ct (rg (xw 3 [(24, .load (.agg (o7A (xs.getD i op0) (aL B_12 (xs.getD i op0).attrs c_13))))] [(23, .slice Q nq cq), (25, .slice (some ⟨w_21.heap.size, 0, none⟩) 1 1)] [5, 7, 22] (w_21.alloc (.cells (o7A (xs.getD i op0) (aL B_12 (xs.getD i op0).attrs c_13)) 102)) [la 102 (⟨wl.heap.size, 0, none⟩) (.agg (o7A (xs.getD i op0) (aL B_12 (xs.getD i op0).attrs c_13))) w_21] ⟨loadsB rfl rfl hk_23 0 ⟨by kernel_rfl, by kernel_rfl⟩, trivial⟩ ?_)))
   obtain ⟨w_26, hw_30, hb_27, hk_28, hz_29⟩ := new_world w_21 (o7A (xs.getD i op0) (aL B_12 (xs.getD i op0).attrs c_13)) 102
   rw [hw_30]
   have hB_31 : Below wl.heap.size wl w_26 := (bt (bg hb_17 hg_22 (Nat.le_refl _)) hb_27)
   have hR_32 := Kd.R_litB (kRaw 7) (W := w_21) (e := 102) (cs := (o7A (xs.getD i op0) (aL B_12 (xs.getD i op0).attrs c_13))) [(o7L (xs.getD i op0) (aL B_12 (xs.getD i op0).attrs c_13))] hk_28 (rawL1 _ rfl (by kernel_rfl)) (Nat.le_of_ble_eq_true (by kernel_rfl))
   have hB_39 : Below w.heap.size w w_26 := (bt (bg (bt HB hb_17) hg_22 (HB).size) hb_27)
   refine XL_appendMixK (d := kOp) (W0 := w) (B := w.heap.size) (c' := 1) (m := 1) op0 rfl rfl rfl 102 (.agg #[i6 0, s0, i6 0, i6 0, s0, i6 0, .slice none 0 0]) 88 Tryz.underlying22 info102 rfl (by decide) (by omega) (insOf (xs.take i)) ([(xs.getD i op0)]) [(o7L (xs.getD i op0) (aL B_12 (xs.getD i op0).attrs c_13))] (by kernel_rfl) (MixK.below hmx hB_31) (Kd.R_C hR_32) rfl (fun i_ hi_ => by have h_ : i_ = 0 := (by omega); subst h_; exact (kOp_K_of (x := (xs.getD i op0)) hl_14 hC_15)) (hB_39).size (by (try simp only [List.length_append, List.length_cons, List.length_nil, List.length_take]); omega) ?_
   intro A_33 c_34 w_35 hm_36 hg_37 hl_38
   obtain ⟨z_41, hz_42⟩ : ∃ z_, ((insOf (xs.take i)) ++ [(xs.getD i op0)]) = z_ := ⟨_, rfl⟩; rw [hz_42] at hm_36 ⊢
   have hz_41 := congrArg List.length hz_42; simp only [List.length_append, List.length_cons, List.length_nil, List.length_take] at hz_41
   refine xe0 1 [(5, aL A_33 z_41 c_34), (9, aL A xs c), (10, i6 (xs.length : Int)), (11, nv i)] ?_
   refine nl (rg (xr1 2 [(27, .eq (i6 ((i : Int) + 1)))] [(11, i6 ((i : Int) + 1))] [] (w6 ((i : Int) + 1)) ?_))
   refine nl ?_
   refine ⟨(i + 1, A_33, z_41.length, c_34), by kernel_rfl, ?_, ?_⟩
   ·have hpe_ : insOf (xs.take (i + 1)) = z_41 := by rw [← hz_42]; exact insOf_yes (by omega) (.inl c_25)
    refine ⟨by omega, ?_, (bgo hB_39 hg_37 hl_38 (Nat.le_refl _))⟩
    rw [hpe_]
    exact hm_36
   (try dsimp only); omega
  refine xr 4 [(17, .eq bF), (20, .load (i6 ((xs.getD i op0).kind)))] [(18, bF), (20, i6 ((xs.getD i op0).kind))] [16] [_, _] ⟨bN c_25, lc 3 hk_23 0, trivial⟩ ?_
  by_cases c_44 : (xs.getD i op0).kind = 2
  ·refine xr1 2 [(21, .eq bT)] [(22, bT)] [18, 20] (bE c_44) ?_
   refine nl (ct (rg (xwe 3 [(24, .load (.agg (o7A (xs.getD i op0) (aL B_12 (xs.getD i op0).attrs c_13))))] [(9, aL A xs c), (10, i6 (xs.length : Int)), (11, nv i), (23, .slice Q nq cq), (25, .slice (some ⟨w_21.heap.size, 0, none⟩) 1 1)] (w_21.alloc (.cells (o7A (xs.getD i op0) (aL B_12 (xs.getD i op0).attrs c_13)) 102)) [la 102 (⟨wl.heap.size, 0, none⟩) (.agg (o7A (xs.getD i op0) (aL B_12 (xs.getD i op0).attrs c_13))) w_21] ⟨loadsB rfl rfl hk_23 0 ⟨by kernel_rfl, by kernel_rfl⟩, trivial⟩ ?_)))
   obtain ⟨w_45, hw_49, hb_46, hk_47, hz_48⟩ := new_world w_21 (o7A (xs.getD i op0) (aL B_12 (xs.getD i op0).attrs c_13)) 102
   rw [hw_49]
   have hB_50 : Below wl.heap.size wl w_45 := (bt (bg hb_17 hg_22 (Nat.le_refl _)) hb_46)
   have hR_51 := Kd.R_litB (kRaw 7) (W := w_21) (e := 102) (cs := (o7A (xs.getD i op0) (aL B_12 (xs.getD i op0).attrs c_13))) [(o7L (xs.getD i op0) (aL B_12 (xs.getD i op0).attrs c_13))] hk_47 (rawL1 _ rfl (by kernel_rfl)) (Nat.le_of_ble_eq_true (by kernel_rfl))
   have hB_58 : Below w.heap.size w w_45 := (bt (bg (bt HB hb_17) hg_22 (HB).size) hb_46)
   refine XL_appendMixK (d := kOp) (W0 := w) (B := w.heap.size) (c' := 1) (m := 1) op0 rfl rfl rfl 102 (.agg #[i6 0, s0, i6 0, i6 0, s0, i6 0, .slice none 0 0]) 88 Tryz.underlying22 info102 rfl (by decide) (by omega) (insOf (xs.take i)) ([(xs.getD i op0)]) [(o7L (xs.getD i op0) (aL B_12 (xs.getD i op0).attrs c_13))] (by kernel_rfl) (MixK.below hmx hB_50) (Kd.R_C hR_51) rfl (fun i_ hi_ => by have h_ : i_ = 0 := (by omega); subst h_; exact (kOp_K_of (x := (xs.getD i op0)) hl_14 hC_15)) (hB_58).size (by (try simp only [List.length_append, List.length_cons, List.length_nil, List.length_take]); omega) ?_
   intro A_52 c_53 w_54 hm_55 hg_56 hl_57
   obtain ⟨z_60, hz_61⟩ : ∃ z_, ((insOf (xs.take i)) ++ [(xs.getD i op0)]) = z_ := ⟨_, rfl⟩; rw [hz_61] at hm_55 ⊢
   have hz_60 := congrArg List.length hz_61; simp only [List.length_append, List.length_cons, List.length_nil, List.length_take] at hz_60
   refine xr0 1 [(5, aL A_52 z_60 c_53)] [23, 25, 26] ?_
   refine nl (rg (xr1 2 [(27, .eq (i6 ((i : Int) + 1)))] [(11, i6 ((i : Int) + 1))] [] (w6 ((i : Int) + 1)) ?_))
   refine nl ?_
   refine ⟨(i + 1, A_52, z_60.length, c_53), by kernel_rfl, ?_, ?_⟩
   ·have hpe_ : insOf (xs.take (i + 1)) = z_60 := by rw [← hz_61]; exact insOf_yes (by omega) (.inr c_44)
    refine ⟨by omega, ?_, (bgo hB_58 hg_56 hl_57 (Nat.le_refl _))⟩
    rw [hpe_]
    exact hm_55
   (try dsimp only); omega
  refine xr1 2 [(21, .eq bF)] [(22, bF)] [18, 20] (bN c_44) ?_
  refine nl (cf (sk (rg (xe1 2 [(27, .eq (i6 ((i : Int) + 1)))] [(5, .slice Q nq cq), (9, aL A xs c), (10, i6 (xs.length : Int)), (11, i6 ((i : Int) + 1))] (w6 ((i : Int) + 1)) ?_))))
  refine nl ?_
  refine ⟨(i + 1, Q, nq, cq), by kernel_rfl, ?_, ?_⟩
  ·have hpe_ : insOf (xs.take (i + 1)) = insOf (xs.take i) := insOf_no (by omega) c_25 c_44
   refine ⟨by omega, ?_, (bg (bt HB hb_17) hg_22 (HB).size)⟩
   rw [hpe_]
   exact (MixK.below hmx (bg hb_17 hg_22 (Nat.le_refl _)))
  (try dsimp only); omega
 refine xr1 1 [(12, .eq bF)] [(12, bF)] [] (dF c_8) ?_
 refine nl (sq (cf (X_exit (sq (X_region ?_)))))
 have hie : i = xs.length := by omega
 rw [hie, List.take_length] at hmx hnq
 subst hnq
 have hC_63 : kOp.C wl Q (insOf xs).length (insOf xs) := MixK.C hmx HB
 refine xe0 1 [(28, aL Q (insOf xs) cq)] ?_
 refine xc 35 ent35 [aL Q (insOf xs) cq] (made_any _ _ (insOf xs) _ hC_63 (MixK.len hmx).2 (by omega) hzI (by omega) (hT.below HB) es (hO.below HB)) ?_
 rintro e w_64 ⟨hb_65, ⟨hb0_66, d, A_67, c_68, A_69, c_70, rfl, hd_71, hm_72⟩ | ⟨hb0_66, rfl⟩⟩
 ·refine ⟨_, rfl, ?_⟩
  obtain ⟨hcb_d, hcn_d, hcz_d, hcc_d⟩ := can_facts (xs := (insOf xs)) hb0_66 (by omega) hzI (by omega)
  have hcs_d := (B.of_can hcc_d).2.1
  have hcf_d : (cellsAll (B.can (insOf xs))).length ≤ 100000000 := by have h1_ := cellsAll_few (B.can (insOf xs)); have h2_ := B.can_tx (fine_all3 hzI); have h3_ := B.can_len (insOf xs); omega
  have hD_d := hd_71.c
  refine xe0 6 [(2, pw d 0), (3, aL A_69 (B.can (insOf xs)) c_70), (4, bT)] ?_
  refine nl (X_ret (rj [pw d 0, .slice A_69 ((B.can (insOf xs)).length) c_70, bT] hR_ ?_))
  exact ⟨(bt HB hb_65), .inl ⟨hb0_66, d, _, _, _, _, wl, rfl, HB, hb_65, hd_71, hm_72⟩⟩
 refine ⟨_, rfl, ?_⟩
 refine xe0 6 [(2, .pointer none), (3, .slice none 0 0), (4, bF)] ?_
 refine nl (X_ret (rj [.pointer none, .slice none 0 0, bF] hR_ ?_))
 exact ⟨(bt HB hb_65), .inr ⟨hb0_66, rfl⟩⟩
end Go.Proofs.YtgphmfnkeolbcaaGreatDoor
