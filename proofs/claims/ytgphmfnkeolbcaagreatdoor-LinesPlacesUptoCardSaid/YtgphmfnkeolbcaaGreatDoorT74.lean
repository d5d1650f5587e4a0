import Derived.Test.YtgphmfnkeolbcaaGreatDoorP2
import Derived.Test.YtgphmfnkeolbcaaGreatDoorT70
import Derived.Test.YtgphmfnkeolbcaaGreatDoorT72
import Derived.Test.YtgphmfnkeolbcaaGreatDoorAn
import Derived.Test.YtgphmfnkeolbcaaGreatDoorSpare
import Derived.Test.YtgphmfnkeolbcaaGreatDoorClp
/- vellumlaw21.lives. Conditions: the tables of utf8, the errors' variables. -/
set_option linter.unusedVariables false
set_option linter.unusedSimpArgs false
set_option maxRecDepth 100000
namespace Go.Proofs.YtgphmfnkeolbcaaGreatDoor
open Go Go.RowKit Go.Proofs.YtgphmfnkeolbcaaGreatDoorW.PrintWords RX
theorem ent33 : Ent Tryz.prog 33 := ent_of Tryz.func33 (by kernel_rfl) rfl
def lo21 : List OpA := [⟨1, (⟨#[97, 98, 10, 99, 10]⟩ : ByteArray), 0, 0, ByteArray.empty, 0, []⟩]
def lc21 : List CellA := [cellR [] 97, cellR [] 98, cellR [] 10, cellR [] 99, cellR [] 10]
def lls21 : List LineA := [⟨0, 2, [], (⟨#[97, 98]⟩ : ByteArray)⟩, ⟨3, 1, [], (⟨#[99]⟩ : ByteArray)⟩]
theorem lo21_can : B.can lo21 = lo21 := by kernel_rfl
theorem lo21_bad : badE lo21 = 0 := by kernel_rfl
theorem lo21_sc : U.sc (⟨#[97, 98, 10, 99, 10]⟩ : ByteArray) = [97, 98, 10, 99, 10] := (U.utf_of (rs := [97, 98, 10, 99, 10]) (fun r hr => by simp only [List.mem_cons, List.not_mem_nil, or_false] at hr; unfold U.vr; omega) (by kernel_rfl)).2
theorem lo21_cells : cellsAll lo21 = lc21 := by
 show cellsP _ ++ [] = _
 rw [cellsP_1 rfl, List.append_nil]
 show (U.sc (⟨#[97, 98, 10, 99, 10]⟩ : ByteArray)).map _ = _
 rw [lo21_sc]; rfl
theorem lo21_doc : isDoc lo21 = true := doc_of_mem fun o ho => by rw [List.mem_singleton.1 ho]; exact .inl rfl
theorem lo21_sums : sB lo21 = 0 ∧ sR lo21 = 5 := by
 refine ⟨?_, ?_⟩
 ·show opB _ + 0 = 0
  rw [B.opB_ins (.inl rfl)]; rfl
 show opR _ + 0 = 5
 rw [B.opR_txt rfl]
 show ((U.sc (⟨#[97, 98, 10, 99, 10]⟩ : ByteArray)).length : Int) + 0 = 5
 rw [lo21_sc]; rfl
theorem lo21_of : (B.bOf lo21).2 = 0 := by rw [B.bOf_of lo21_bad (by rw [lo21_sums.1]; decide) (by rw [lo21_sums.2]; decide)]
theorem lo21_sz : ∀ i, i < lo21.length → opSz (lo21.getD i op0) := by
 intro i hi
 match i, hi with
 | 0, _ => exact sz_lit (by decide)
 | k + 1, h => exact absurd h (by show ¬ k + 1 < 1; omega)
theorem lo21_err : lnErr lo21 = 0 := by unfold lnErr; rw [if_pos lo21_doc, lo21_cells]; kernel_rfl
theorem lo21_lns : lnOf lo21 = lls21 := by unfold lnOf; rw [lo21_err, lo21_cells]; kernel_rfl
theorem lo21_at : lnAt lo21 4 = (1, 1, 0) := by unfold lnAt; rw [lo21_err, lo21_lns]; kernel_rfl
theorem lo21_at1 : lnAt lo21 1 = (0, 1, 0) := by unfold lnAt; rw [lo21_err, lo21_lns]; kernel_rfl
theorem lo21_at3 : lnAt lo21 (1 + 3 - 1) = (1, 0, 0) := by unfold lnAt; rw [lo21_err, lo21_lns]; kernel_rfl
theorem lo21_place : lnPlace lo21 1 1 = (4, 0) := by unfold lnPlace; rw [lo21_err, lo21_lns]; kernel_rfl
theorem lo21_touched : lnTouched lo21 1 3 = (0, 1, 0) := by unfold lnTouched; rw [lo21_at1, lo21_at3, lo21_cells]; kernel_rfl
theorem lo21_text : lnText (cellsAll lo21) = (⟨#[97, 98, 10, 99, 10]⟩ : ByteArray) := by rw [lo21_cells]; kernel_rfl
def CntI (w : World) (g hi : Nat) (pre : List ElL) (M : Nat → Prop) (W : World) : Prop := RX.Blk W g 3 #[i6 (pre.length : Int)] ∧ M = (fun k => k = g) ∧ Below w.heap.size w W
theorem CntI.own {w : World} {g hi B : Nat} (h : w.heap.size ≤ B) (M : Nat → Prop) : OwnFrom B (fun s W => CntI w g hi s M W) := by
 rintro s W W' row ⟨h1, h2, h3⟩ hg hr
 exact ⟨RX.ownFrom_blk (β := Unit) (B := B) (fun _ => g) _ (fun _ => _) () W W' row h1 hg hr, h2, RX.ownFrom_below' (β := Unit) w h () W W' row h3 hg hr⟩
theorem CntI.im {w : World} {g lo hi : Nat} {pre : List ElL} {M : Nat → Prop} {W : World} (h : CntI w g hi pre M W) (h1 : g < lo) : ∀ k, M k → ¬ (lo ≤ k ∧ k < hi) ∧ k < W.heap.size := by
 obtain ⟨e1, rfl, e3⟩ := h
 rintro k rfl
 exact ⟨fun h => by omega, e1.lt⟩
set_option maxHeartbeats 2000000 in
theorem lives21_any (w : World) (hT : Tabs w) (es : List Addr) (hE : ErrsL w es) : Calls Tryz.prog 33 #[] w fun e w' => e = .returned bT ∧ Below w.heap.size w w' := by
 have hO : ErrsO w es := hE.o
 refine RX.enterM Tryz.func33 rfl 131 rfl [] rfl (by kernel_rfl) (fun R_ hR_ => ?_)
 refine RX.X_mark0 rfl ?_
 refine sg (xq 1 [] [(1000000, encD [])] w [] trivial ?_)
 refine nl (sg (xq 2 [] [(19, .slice (some ⟨w.heap.size, 0, none⟩) 1 1), (1000000, encD [])] (w.alloc (.cells #[i6 1, sT (⟨#[97, 98, 10, 99, 10]⟩ : ByteArray), i6 0, i6 0, s0, i6 0, .slice none 0 0] 102)) [] trivial ?_))
 obtain ⟨w_1, hw_5, hb_2, hk_3, hz_4⟩ := new_world w #[i6 1, sT (⟨#[97, 98, 10, 99, 10]⟩ : ByteArray), i6 0, i6 0, s0, i6 0, .slice none 0 0] 102
 rw [hw_5]
 have hr_6 := Kd.R_litB kOp (W := w) (e := 102) (cs := #[i6 1, sT (⟨#[97, 98, 10, 99, 10]⟩ : ByteArray), i6 0, i6 0, s0, i6 0, .slice none 0 0]) [(⟨1, (⟨#[97, 98, 10, 99, 10]⟩ : ByteArray), 0, 0, ByteArray.empty, 0, []⟩ : OpA)] hk_3 (repsOp0 [(⟨1, (⟨#[97, 98, 10, 99, 10]⟩ : ByteArray), 0, 0, ByteArray.empty, 0, []⟩ : OpA)] (by intro x hx; simp only [List.mem_cons, List.not_mem_nil, or_false] at hx; rcases hx with rfl <;> rfl)) (Nat.le_of_ble_eq_true (by kernel_rfl))
 refine xc 65 ent65 [.slice (some ⟨w.heap.size, 0, none⟩) 1 1] (bof_any _ 1 lo21 _ (Kd.R_C hr_6) (Nat.le_of_ble_eq_true rfl) (Nat.le_of_ble_eq_true rfl) lo21_sz (Nat.le_of_ble_eq_true (by kernel_rfl)) (hT.below hb_2) es (hO.below hb_2)) ?_
 rintro e w_7 ⟨hb_11, ⟨h0_12, d, A_8, c_9, rfl, hd_10⟩ | ⟨h0_12, rfl⟩⟩
 ·refine ⟨_, rfl, ?_⟩
  rw [lo21_can] at hd_10; have hD_ := hd_10.c
  refine xq 7 [] [(1, pw d 0), (3, .nilIface), (1000000, encD [])] w_7 [] trivial ?_
  refine nl (sq (sg (xq 6 [] [(1, pw d 0), (29, bF), (1000000, encD [])] w_7 [] trivial ?_)))
  refine nl (cf (sk (sg (xq 1 [] [(1, pw d 0), (31, pw d 0), (1000000, encD [])] w_7 [] trivial ?_))))
  refine xc 36 ent36 [pw d 0] (lines_any d lo21 _ hD_ lo21_bad (by rw [lo21_sums.1]; decide) (Nat.le_of_ble_eq_true rfl) lo21_sz (by rw [lo21_cells]; exact Nat.le_of_ble_eq_true rfl) (hT.below (bt hb_2 hb_11)) es (hE.below (bt hb_2 hb_11))) ?_
  rintro e w_19 ⟨A_13, c_14, ls_15, el_16, rfl, hl_17, hr_18, hb_20⟩; refine ⟨_, rfl, ?_⟩
  rw [lo21_lns] at el_16; rw [el_16] at hl_17 hr_18; rw [el_16, lo21_err, errV_zero]
  have hC_21 := Kd.R_C hr_18
  refine xq 5 [] [(1, pw d 0), (3, .nilIface), (4, aL A_13 lls21 c_14), (1000000, encD [])] w_19 [] trivial ?_
  refine nl (sg (xq 1 [] [(1, pw d 0), (3, .nilIface), (4, aL A_13 lls21 c_14), (36, pw d 0), (1000000, encD [])] w_19 [] trivial ?_))
  refine xc 45 ent45 [pw d 0, i6 4] (lat_any d lo21 4 _ (hD_.below hb_20) lo21_bad (by rw [lo21_sums.1]; decide) (Nat.le_of_ble_eq_true rfl) lo21_sz (by rw [lo21_cells]; exact Nat.le_of_ble_eq_true rfl) (hT.below (bt (bt hb_2 hb_11) hb_20)) es (hE.below (bt (bt hb_2 hb_11) hb_20)) (by decide)) ?_
  rintro e w_22 ⟨rfl, hb_23⟩; refine ⟨_, rfl, ?_⟩
  rw [lo21_at, errV_zero]
  refine xq 7 [] [(1, pw d 0), (3, .nilIface), (4, aL A_13 lls21 c_14), (5, i6 1), (6, i6 1), (7, .nilIface), (1000000, encD [])] w_22 [] trivial ?_
  refine nl (sg (xq 1 [] [(1, pw d 0), (3, .nilIface), (4, aL A_13 lls21 c_14), (5, i6 1), (6, i6 1), (7, .nilIface), (42, pw d 0), (1000000, encD [])] w_22 [] trivial ?_))
  refine xc 47 ent47 [pw d 0, i6 1, i6 1] (lplace_any d lo21 1 1 _ (hD_.below (bt hb_20 hb_23)) lo21_bad (by rw [lo21_sums.1]; decide) (Nat.le_of_ble_eq_true rfl) lo21_sz (by rw [lo21_cells]; exact Nat.le_of_ble_eq_true rfl) (hT.below (bt (bt (bt hb_2 hb_11) hb_20) hb_23)) es (hE.below (bt (bt (bt hb_2 hb_11) hb_20) hb_23))) ?_
  rintro e w_24 ⟨rfl, hb_25⟩; refine ⟨_, rfl, ?_⟩
  rw [lo21_place, errV_zero]
  refine xq 5 [] [(1, pw d 0), (3, .nilIface), (4, aL A_13 lls21 c_14), (5, i6 1), (6, i6 1), (7, .nilIface), (8, i6 4), (9, .nilIface), (1000000, encD [])] w_24 [] trivial ?_
  refine nl (sg (xq 1 [] [(1, pw d 0), (3, .nilIface), (4, aL A_13 lls21 c_14), (5, i6 1), (6, i6 1), (7, .nilIface), (8, i6 4), (9, .nilIface), (47, pw d 0), (1000000, encD [])] w_24 [] trivial ?_))
  have hB_26 : Below w.heap.size w w_24 := (bt (bt (bt (bt hb_2 hb_11) hb_20) hb_23) hb_25)
  refine xc 49 ent49 [pw d 0, i6 1, i6 3] (ltouched_any d lo21 1 3 _ (hD_.below (bt (bt hb_20 hb_23) hb_25)) lo21_bad (by rw [lo21_sums.1]; decide) (Nat.le_of_ble_eq_true rfl) lo21_sz (by rw [lo21_cells]; exact Nat.le_of_ble_eq_true rfl) (hT.below hB_26) es (hE.below hB_26) (by decide) (by decide)) ?_
  rintro e w_27 ⟨rfl, hb_28⟩; refine ⟨_, rfl, ?_⟩
  rw [lo21_touched, errV_zero]
  refine xq 7 [] [(1, pw d 0), (3, .nilIface), (4, aL A_13 lls21 c_14), (5, i6 1), (6, i6 1), (7, .nilIface), (8, i6 4), (9, .nilIface), (10, i6 0), (11, i6 1), (12, .nilIface), (1000000, encD [])] w_27 [] trivial ?_
  refine nl (sg (xq 1 [] [(1, pw d 0), (3, .nilIface), (4, aL A_13 lls21 c_14), (5, i6 1), (6, i6 1), (7, .nilIface), (8, i6 4), (9, .nilIface), (10, i6 0), (11, i6 1), (12, .nilIface), (53, pw d 0), (1000000, encD [])] w_27 [] trivial ?_))
  refine xc 38 ent38 [pw d 0] (lntext_any d lo21 _ (hD_.below (bt (bt (bt hb_20 hb_23) hb_25) hb_28)) lo21_bad (by rw [lo21_sums.1]; decide) (Nat.le_of_ble_eq_true rfl) lo21_sz (by rw [lo21_cells]; exact Nat.le_of_ble_eq_true rfl) (hT.below (bt hB_26 hb_28)) es (hE.below (bt hB_26 hb_28))) ?_
  rintro e w_29 ⟨rfl, hb_30⟩; refine ⟨_, rfl, ?_⟩
  rw [if_pos lo21_doc, if_pos lo21_doc, lo21_text, errV_zero]
  refine xq 5 [] [(1, pw d 0), (3, .nilIface), (4, aL A_13 lls21 c_14), (5, i6 1), (6, i6 1), (7, .nilIface), (8, i6 4), (9, .nilIface), (10, i6 0), (11, i6 1), (12, .nilIface), (13, sT (⟨#[97, 98, 10, 99, 10]⟩ : ByteArray)), (14, .nilIface), (1000000, encD [])] w_29 [] trivial ?_
  refine nl (sg (xq 1 [] [(1, pw d 0), (3, .nilIface), (4, aL A_13 lls21 c_14), (5, i6 1), (6, i6 1), (7, .nilIface), (8, i6 4), (9, .nilIface), (10, i6 0), (11, i6 1), (12, .nilIface), (13, sT (⟨#[97, 98, 10, 99, 10]⟩ : ByteArray)), (14, .nilIface), (15, pw w_29.heap.size 0), (1000000, encD [])] (w_29.alloc (.cells #[i6 0] 3)) [] trivial ?_))
  obtain ⟨w_31, hw_35, hb_32, hk_33, hz_34⟩ := new_world w_29 #[i6 0] 3
  rw [hw_35]
  refine xst (i6 0) hk_33 0 #[i6 0] (fun w_36 hg_37 hk_38 hz_39 => ?_)
  refine nl (sg (xq 1 [] [(3, .nilIface), (4, aL A_13 lls21 c_14), (5, i6 1), (6, i6 1), (7, .nilIface), (8, i6 4), (9, .nilIface), (10, i6 0), (11, i6 1), (12, .nilIface), (13, sT (⟨#[97, 98, 10, 99, 10]⟩ : ByteArray)), (14, .nilIface), (15, pw w_29.heap.size 0), (57, pw d 0), (1000000, encD [])] w_36 [] trivial ?_))
  have hB_52 : Below w_7.heap.size w_7 w_29 := (bt (bt (bt (bt hb_20 hb_23) hb_25) hb_28) hb_30)
  have hB_53 : Below w_7.heap.size w_7 w_36 := (bg (bt (bt (bt (bt (bt hb_20 hb_23) hb_25) hb_28) hb_30) hb_32) hg_37 (hB_52).size)
  have hB_54 : Below w.heap.size w w_36 := (bg (bt (bt (bt hB_26 hb_28) hb_30) hb_32) hg_37 ((bt (bt hB_26 hb_28) hb_30)).size)
  refine xc 42 ent42 [pw d 0] (leach_any d lo21 _ (hD_.below hB_53) lo21_bad (by rw [lo21_sums.1]; decide) (Nat.le_of_ble_eq_true rfl) lo21_sz (by rw [lo21_cells]; exact Nat.le_of_ble_eq_true rfl) (hT.below hB_54) es (hE.below hB_54)) ?_
  rintro e w_55 ⟨g_44, A_45, c_46, ls_47, el_48, rfl, hge_49, hk_50, hr_51, hb_56⟩; refine ⟨_, rfl, ?_⟩
  rw [lo21_lns] at el_48; rw [el_48] at hk_50 hr_51
  have hr9_ : kLine.R 78 w_55 w_36.heap.size (fun k_ => w_36.heap.size ≤ k_ ∧ k_ < w_55.heap.size) (aL A_45 lls21 c_46) lls21 := Kd.R_mono (Kd.R_bound hr_51) (fun k_ hk_ => ⟨hk_.2.1, hk_.2.2.1⟩)
  refine xq 1 [] [(3, .nilIface), (4, aL A_13 lls21 c_14), (5, i6 1), (6, i6 1), (7, .nilIface), (8, i6 4), (9, .nilIface), (10, i6 0), (11, i6 1), (12, .nilIface), (13, sT (⟨#[97, 98, 10, 99, 10]⟩ : ByteArray)), (14, .nilIface), (15, pw w_29.heap.size 0), (16, .func (.func 109) #[] #[pw g_44 0]), (1000000, encD [])] w_55 [] trivial ?_
  refine nl (sq (sg (xq 2 [] [(3, .nilIface), (4, aL A_13 lls21 c_14), (5, i6 1), (6, i6 1), (7, .nilIface), (8, i6 4), (9, .nilIface), (10, i6 0), (11, i6 1), (12, .nilIface), (13, sT (⟨#[97, 98, 10, 99, 10]⟩ : ByteArray)), (14, .nilIface), (15, pw w_29.heap.size 0), (16, .func (.func 109) #[] #[pw g_44 0]), (60, bF), (1000000, encD [])] w_55 [] trivial ?_)))
  refine nl (cf (sk (sq (sg (xq 1 [] [(3, .nilIface), (4, aL A_13 lls21 c_14), (5, i6 1), (6, i6 1), (7, .nilIface), (8, i6 4), (9, .nilIface), (10, i6 0), (11, i6 1), (12, .nilIface), (13, sT (⟨#[97, 98, 10, 99, 10]⟩ : ByteArray)), (14, .nilIface), (15, pw w_29.heap.size 0), (61, .func (.func 109) #[] #[pw g_44 0]), (1000000, encD [])] w_55 [] trivial ?_)))))
  refine nl (X_block ?_)
  have hc15_ : w_29.heap.size < w_36.heap.size := Nat.lt_of_lt_of_le (Blk.lt hk_38) (Nat.le_refl _)
  have hlh_ : w_36.heap.size ≤ w_55.heap.size := (hb_56).size
  have hhW_ : w_55.heap.size ≤ w_55.heap.size := (Nat.le_refl _)
  have hB_57 : Below w_29.heap.size w_29 w_55 := (bt (bg hb_32 hg_37 (Nat.le_refl _)) hb_56)
  refine X_rangeM (α := ElL) (ι := Unit) rfl ent109 (encs := elLV) (leach_seq (fun k_ => w_36.heap.size ≤ k_ ∧ k_ < w_55.heap.size) (fun k_ => w_36.heap.size ≤ k_ ∧ k_ < w_55.heap.size) w_36.heap.size g_44 A_45 c_46 lls21 w_55 hr9_ (fun _ h_ => h_) (fun k_ h_ => by omega) (by decide) (fun l_ h_ => by rcases List.mem_cons.1 h_ with rfl | h_; (· exact Nat.zero_le _); (· rw [List.mem_singleton.1 h_]; exact Nat.zero_le _)) hk_50) (Below.refl _ _) (fun k_ h_ => by omega) (fun _ => rfl) (by kernel_rfl) (fun pre_ M_ W_ => CntI w_29 w_29.heap.size w_55.heap.size pre_ M_ W_) (fun c_ pre_ W_ => False) (fun M_ => CntI.own (hB_57).size M_) (fun _ => RX.ownFrom_pure _) (fun _ _ _ h_ => CntI.im h_ hc15_) (fun k_ => k_ = w_29.heap.size) ⟨(Blk.below hk_38 hb_56), rfl, hB_57⟩ (fun x_ i_ W_ => True) (fun _ => RX.ownFrom_pure _) (fun x_ i_ => [(3, .nilIface), (4, aL A_13 lls21 c_14), (5, i6 1), (6, i6 1), (7, .nilIface), (8, i6 4), (9, .nilIface), (10, i6 0), (11, i6 1), (12, .nilIface), (13, sT (⟨#[97, 98, 10, 99, 10]⟩ : ByteArray)), (14, .nilIface), (15, pw w_29.heap.size 0)]) ?_ ?_ ?_ ?_
  ·rintro lp_ pre_ M_ x_ W_ hlp_ hws_ ⟨hk15_, hM_, hBw_⟩ hpx_ hlen_
   have hg15l_ := hk15_.lt
   have hl2_ : lls21.length = 2 := rfl
   refine XI_keep [3, 4, 5, 6, 7, 8, 9, 10, 11, 12, 13, 14, 15, 61, 62, 63] [(3, .nilIface), (4, aL A_13 lls21 c_14), (5, i6 1), (6, i6 1), (7, .nilIface), (8, i6 4), (9, .nilIface), (10, i6 0), (11, i6 1), (12, .nilIface), (13, sT (⟨#[97, 98, 10, 99, 10]⟩ : ByteArray)), (14, .nilIface), (15, pw w_29.heap.size 0), (61, .func (.func 109) #[] #[pw g_44 0]), (62, i6 x_.1), (63, .agg #[i6 x_.2.1.from_, i6 x_.2.1.len, .slice x_.2.2.1 x_.2.1.attrs.length x_.2.2.2, sT x_.2.1.text])] (by kernel_rfl) ?_
   refine XI_skip ?_
   exact ⟨(), by kernel_rfl, KeepsFrom.refl _ _, KpM.refl _ _ _, ⟨hk15_, hM_, hBw_⟩, trivial⟩
  ·rintro lp_ pre_ M_ x_ i_ W_ hlp_ hws_ ⟨hk15_, hM_, hBw_⟩ _ hlen_
   have hg15l_ := hk15_.lt
   have hl2_ : lls21.length = 2 := rfl
   refine XI_block ?_
   refine XI_region (by kernel_rfl) (fun _ _ h_ => h_) ?_
   refine xq 2 [(64, .load (i6 (pre_.length : Int))), (65, .eq (i6 ((pre_.length : Int) + 1)))] [(3, .nilIface), (4, aL A_13 lls21 c_14), (5, i6 1), (6, i6 1), (7, .nilIface), (8, i6 4), (9, .nilIface), (10, i6 0), (11, i6 1), (12, .nilIface), (13, sT (⟨#[97, 98, 10, 99, 10]⟩ : ByteArray)), (14, .nilIface), (15, pw w_29.heap.size 0), (65, i6 ((pre_.length : Int) + 1))] W_ [la 3 (⟨w_29.heap.size, 0, none⟩) (i6 (pre_.length : Int)) W_, i6 (IntKind.i64.wrap ((pre_.length : Int) + 1)) = i6 ((pre_.length : Int) + 1)] ⟨loads1 rfl (Blk.cell hk15_ 0 _ rfl), wr_i64 (by omega) (by omega), trivial⟩ ?_
   refine xst (i6 ((pre_.length : Int) + 1)) hk15_ 0 #[i6 ((pre_.length : Int) + 1)] (fun w_58 hg_59 hk_60 hz_61 => ?_)
   refine nl ?_
   have hDw_ : ∀ k_, (fun k_ => w_36.heap.size ≤ k_ ∧ k_ < w_55.heap.size) k_ → k_ < W_.heap.size := fun k_ h_ => by omega
   exact ⟨(keeps_store hk15_ hg_59), M_, (KpM.grown hg_59 (fun k_ e_ => by injection e_ with e_; subst e_; exact ⟨by rw [hM_], fun h_ => by omega⟩) (fun k_ h_ => Nat.lt_of_lt_of_le (hDw_ k_ h_) (Nat.le_refl _))), (fun k_ h_ => .inl h_), ⟨by rw [List.length_append, List.length_singleton]; exact hk_60, hM_, (bg hBw_ hg_59 (Nat.le_refl _))⟩⟩
  ·rintro D_63 pre_ M_ w_62 hD_64 hS_65 ⟨hk15_, hM_, hBw_⟩ hK_66
   have hg15l_ := hk15_.lt
   have hl2_ : lls21.length = 2 := rfl
   have hall_ : pre_.length = 2 := hS_65.2
   rw [hall_] at hk15_
   have hds_ : Defs (D_63 :: []) w_62 := Defs.cons hK_66 (fun _ h_ => by cases h_)
   have hdge_ : ∀ D_ ∈ D_63 :: [], w_55.heap.size ≤ D_ := fun D_ hm_ => (List.mem_cons.1 hm_).elim (fun e_ => by omega) (fun h_ => by cases h_)
   refine sg (xq 9 [(71, .eq bT)] [(4, aL A_13 lls21 c_14), (5, i6 1), (6, i6 1), (7, .nilIface), (8, i6 4), (9, .nilIface), (10, i6 0), (11, i6 1), (12, .nilIface), (13, sT (⟨#[97, 98, 10, 99, 10]⟩ : ByteArray)), (14, .nilIface), (15, pw w_29.heap.size 0), (73, bT), (74, aL A_13 lls21 c_14), (1000000, encD (D_63 :: []))] w_62 [Value.bool ((lls21.length : Int) == 2) = bT] ⟨congrArg Value.bool (beq_iff_eq.2 ((by rfl))), trivial⟩ ?_)
   have hB_67 : Below w_19.heap.size w_19 w_62 := (bt (bt (bt (bt hb_23 hb_25) hb_28) hb_30) hBw_)
   obtain ⟨ad_68, B_71, c_72, ha_69, hc_70, hl_73, hC_74⟩ := RX.Kd.atLine (Kd.C_below hC_21 hB_67) (i := (1 : Int)) (by decide) (by decide)
   replace hc_70 : CellsAt w_62 (ad_68.add ((1 : Int).toNat * 4)) [i6 ((lls21.getD 1 line0).from_), i6 ((lls21.getD 1 line0).len), .slice B_71 ((lls21.getD 1 line0).attrs.length) c_72, sT ((lls21.getD 1 line0).text)] := hc_70
   replace hl_73 : (lls21.getD 1 line0).attrs.length ≤ c_72 := hl_73
   replace hC_74 : kAttr.C w_62 B_71 ((lls21.getD 1 line0).attrs.length) (lls21.getD 1 line0).attrs := hC_74
   refine xq 7 [(75, .idx ad_68), (77, .load (i6 ((lls21.getD 1 line0).from_))), (78, .eq bT)] [(5, i6 1), (6, i6 1), (7, .nilIface), (8, i6 4), (9, .nilIface), (10, i6 0), (11, i6 1), (12, .nilIface), (13, sT (⟨#[97, 98, 10, 99, 10]⟩ : ByteArray)), (14, .nilIface), (15, pw w_29.heap.size 0), (80, bT), (81, aL A_13 lls21 c_14), (1000000, encD (D_63 :: []))] w_62 [A_13 = some ad_68, (0 : Int) ≤ 1, 1 < (lls21.length : Int), la 3 (ad_68.add ((1 : Int).toNat * 4)) (i6 ((lls21.getD 1 line0).from_)) w_62, Value.bool ((lls21.getD 1 line0).from_ == 3) = bT] ⟨ha_69, (by decide), (by decide), loads1 rfl (elem_cell hc_70 0 _ rfl), congrArg Value.bool (beq_iff_eq.2 ((by rfl))), trivial⟩ ?_
   obtain ⟨ad_75, B_78, c_79, ha_76, hc_77, hl_80, hC_81⟩ := RX.Kd.atLine (Kd.C_below hC_21 hB_67) (i := (1 : Int)) (by decide) (by decide)
   replace hc_77 : CellsAt w_62 (ad_75.add ((1 : Int).toNat * 4)) [i6 ((lls21.getD 1 line0).from_), i6 ((lls21.getD 1 line0).len), .slice B_78 ((lls21.getD 1 line0).attrs.length) c_79, sT ((lls21.getD 1 line0).text)] := hc_77
   replace hl_80 : (lls21.getD 1 line0).attrs.length ≤ c_79 := hl_80
   replace hC_81 : kAttr.C w_62 B_78 ((lls21.getD 1 line0).attrs.length) (lls21.getD 1 line0).attrs := hC_81
   refine xq 50 [(82, .idx ad_75), (84, .load (sT ((lls21.getD 1 line0).text))), (85, .eq bT), (128, .load (i6 2))] [(0, bT), (1000000, encD (D_63 :: []))] w_62 [A_13 = some ad_75, (0 : Int) ≤ 1, 1 < (lls21.length : Int), la 9 ((ad_75.add ((1 : Int).toNat * 4)).add 3) (sT ((lls21.getD 1 line0).text)) w_62, Value.bool (((lls21.getD 1 line0).text).toList == (⟨#[99]⟩ : ByteArray).toList) = bT, la 3 (⟨w_29.heap.size, 0, none⟩) (i6 2) w_62] ⟨ha_76, (by decide), (by decide), loads1 rfl (elem_cell hc_77 3 _ rfl), congrArg Value.bool (strEqT ((by rfl))), loads1 rfl (Blk.cell hk15_ 0 _ rfl), trivial⟩ ?_
   refine nl (X_ret (RX.retM_ok (P := Tryz.prog) (fn := Tryz.f33) (N := 131) (R := R_) (ds := (D_63 :: [])) (dsOf_enc (by kernel_rfl)) (List.nodup_cons.2 ⟨fun h_ => (by cases h_), List.nodup_nil⟩) hds_ [bT] (by kernel_rfl) (fun w_ ho_ => hR_ _ _ ?_)))
   exact ⟨rfl, Off.below ho_ (bt (bt (bt hB_26 hb_28) hb_30) hBw_) (fun D_ hm_ => Nat.le_trans ((bt hB_54 hb_56)).size (hdge_ D_ hm_))⟩
  rintro D_83 c_ pre_ w_82 hD_84 hS_85 hix_ hK_86
  exact hix_.elim
 exact absurd lo21_of h0_12
end Go.Proofs.YtgphmfnkeolbcaaGreatDoor
set_option linter.unusedVariables false
set_option linter.unusedSimpArgs false
set_option maxRecDepth 100000
namespace Go.Proofs.YtgphmfnkeolbcaaGreatDoor
open Go Go.RowKit RX
theorem ent108 : Ent Tryz.prog 108 := ent_of Tryz.func108 (by kernel_rfl) rfl
theorem ent40 : Ent Tryz.prog 40 := ent_of Tryz.func40 (by kernel_rfl) rfl
theorem list_any (es : List Addr) (w : World) (h : Errs w es) : Calls Tryz.prog 108 #[] w fun e w' => e = .returned (.agg (errAgg es)) ∧ Below w.heap.size w w' := by
 refine en Tryz.func108 rfl 21 [] (fun R_ hR_ => ?_)
 refine sg (xwe 1 [] [(0, pw w.heap.size 0)] (w.alloc (.cells #[.nilIface, .nilIface, .nilIface, .nilIface, .nilIface, .nilIface, .nilIface, .nilIface, .nilIface, .nilIface, .nilIface, .nilIface, .nilIface, .nilIface, .nilIface, .nilIface, .nilIface, .nilIface, .nilIface] 152)) [] trivial ?_)
 obtain ⟨w_1, hw_5, hb_2, hk_3, hz_4⟩ := new_world w #[.nilIface, .nilIface, .nilIface, .nilIface, .nilIface, .nilIface, .nilIface, .nilIface, .nilIface, .nilIface, .nilIface, .nilIface, .nilIface, .nilIface, .nilIface, .nilIface, .nilIface, .nilIface, .nilIface] 152
 rw [hw_5]
 refine nl (sg (xr 20 [(1, .load (ev es 1)), (2, .load (ev es 2)), (3, .load (ev es 3)), (4, .load (ev es 4)), (5, .load (ev es 5)), (6, .load (ev es 6)), (7, .load (ev es 7)), (8, .load (ev es 8)), (9, .load (ev es 9)), (10, .load (ev es 10)), (11, .load (ev es 11)), (12, .load (ev es 12)), (13, .load (ev es 13)), (14, .load (ev es 14)), (15, .load (ev es 15)), (16, .load (ev es 16)), (17, .load (ev es 17)), (18, .load (ev es 18)), (19, .load (ev es 19))] [(20, .agg #[ev es 1, ev es 2, ev es 3, ev es 4, ev es 5, ev es 6, ev es 7, ev es 8, ev es 9, ev es 10, ev es 11, ev es 12, ev es 13, ev es 14, ev es 15, ev es 16, ev es 17, ev es 18, ev es 19])] [] [la 35 (⟨6, 0, none⟩) (ev es 1) w_1, la 35 (⟨7, 0, none⟩) (ev es 2) w_1, la 35 (⟨8, 0, none⟩) (ev es 3) w_1, la 35 (⟨9, 0, none⟩) (ev es 4) w_1, la 35 (⟨5, 0, none⟩) (ev es 5) w_1, la 35 (⟨4, 0, none⟩) (ev es 6) w_1, la 35 (⟨10, 0, none⟩) (ev es 7) w_1, la 35 (⟨11, 0, none⟩) (ev es 8) w_1, la 35 (⟨0, 0, none⟩) (ev es 9) w_1, la 35 (⟨12, 0, none⟩) (ev es 10) w_1, la 35 (⟨3, 0, none⟩) (ev es 11) w_1, la 35 (⟨1, 0, none⟩) (ev es 12) w_1, la 35 (⟨13, 0, none⟩) (ev es 13) w_1, la 35 (⟨2, 0, none⟩) (ev es 14) w_1, la 35 (⟨14, 0, none⟩) (ev es 15) w_1, la 35 (⟨15, 0, none⟩) (ev es 16) w_1, la 35 (⟨16, 0, none⟩) (ev es 17) w_1, la 35 (⟨17, 0, none⟩) (ev es 18) w_1, la 35 (⟨18, 0, none⟩) (ev es 19) w_1] ⟨loads1 rfl ((hb_2.cell (World.block_lt_of_cell? _ _ (h.load 1 6 (by decide) (by decide) rfl))).trans (h.load 1 6 (by decide) (by decide) rfl)), loads1 rfl ((hb_2.cell (World.block_lt_of_cell? _ _ (h.load 2 7 (by decide) (by decide) rfl))).trans (h.load 2 7 (by decide) (by decide) rfl)), loads1 rfl ((hb_2.cell (World.block_lt_of_cell? _ _ (h.load 3 8 (by decide) (by decide) rfl))).trans (h.load 3 8 (by decide) (by decide) rfl)), loads1 rfl ((hb_2.cell (World.block_lt_of_cell? _ _ (h.load 4 9 (by decide) (by decide) rfl))).trans (h.load 4 9 (by decide) (by decide) rfl)), loads1 rfl ((hb_2.cell (World.block_lt_of_cell? _ _ (h.load 5 5 (by decide) (by decide) rfl))).trans (h.load 5 5 (by decide) (by decide) rfl)), loads1 rfl ((hb_2.cell (World.block_lt_of_cell? _ _ (h.load 6 4 (by decide) (by decide) rfl))).trans (h.load 6 4 (by decide) (by decide) rfl)), loads1 rfl ((hb_2.cell (World.block_lt_of_cell? _ _ (h.load 7 10 (by decide) (by decide) rfl))).trans (h.load 7 10 (by decide) (by decide) rfl)), loads1 rfl ((hb_2.cell (World.block_lt_of_cell? _ _ (h.load 8 11 (by decide) (by decide) rfl))).trans (h.load 8 11 (by decide) (by decide) rfl)), loads1 rfl ((hb_2.cell (World.block_lt_of_cell? _ _ (h.load 9 0 (by decide) (by decide) rfl))).trans (h.load 9 0 (by decide) (by decide) rfl)), loads1 rfl ((hb_2.cell (World.block_lt_of_cell? _ _ (h.load 10 12 (by decide) (by decide) rfl))).trans (h.load 10 12 (by decide) (by decide) rfl)), loads1 rfl ((hb_2.cell (World.block_lt_of_cell? _ _ (h.load 11 3 (by decide) (by decide) rfl))).trans (h.load 11 3 (by decide) (by decide) rfl)), loads1 rfl ((hb_2.cell (World.block_lt_of_cell? _ _ (h.load 12 1 (by decide) (by decide) rfl))).trans (h.load 12 1 (by decide) (by decide) rfl)), loads1 rfl ((hb_2.cell (World.block_lt_of_cell? _ _ (h.load 13 13 (by decide) (by decide) rfl))).trans (h.load 13 13 (by decide) (by decide) rfl)), loads1 rfl ((hb_2.cell (World.block_lt_of_cell? _ _ (h.load 14 2 (by decide) (by decide) rfl))).trans (h.load 14 2 (by decide) (by decide) rfl)), loads1 rfl ((hb_2.cell (World.block_lt_of_cell? _ _ (h.load 15 14 (by decide) (by decide) rfl))).trans (h.load 15 14 (by decide) (by decide) rfl)), loads1 rfl ((hb_2.cell (World.block_lt_of_cell? _ _ (h.load 16 15 (by decide) (by decide) rfl))).trans (h.load 16 15 (by decide) (by decide) rfl)), loads1 rfl ((hb_2.cell (World.block_lt_of_cell? _ _ (h.load 17 16 (by decide) (by decide) rfl))).trans (h.load 17 16 (by decide) (by decide) rfl)), loads1 rfl ((hb_2.cell (World.block_lt_of_cell? _ _ (h.load 18 17 (by decide) (by decide) rfl))).trans (h.load 18 17 (by decide) (by decide) rfl)), loads1 rfl ((hb_2.cell (World.block_lt_of_cell? _ _ (h.load 19 18 (by decide) (by decide) rfl))).trans (h.load 19 18 (by decide) (by decide) rfl)), trivial⟩ ?_))
 refine xst (.agg #[ev es 1, ev es 2, ev es 3, ev es 4, ev es 5, ev es 6, ev es 7, ev es 8, ev es 9, ev es 10, ev es 11, ev es 12, ev es 13, ev es 14, ev es 15, ev es 16, ev es 17, ev es 18, ev es 19]) hk_3 0 #[ev es 1, ev es 2, ev es 3, ev es 4, ev es 5, ev es 6, ev es 7, ev es 8, ev es 9, ev es 10, ev es 11, ev es 12, ev es 13, ev es 14, ev es 15, ev es 16, ev es 17, ev es 18, ev es 19] (fun w_6 hg_7 hk_8 hz_9 => ?_)
 refine nl (X_ret (RX.ret_cell (P := Tryz.prog) (fn := Tryz.f108) (N := 21) (R := R_) (c := 0) (t := 152) (p := ⟨w.heap.size, 0, none⟩) (v := .agg #[ev es 1, ev es 2, ev es 3, ev es 4, ev es 5, ev es 6, ev es 7, ev es 8, ev es 9, ev es 10, ev es 11, ev es 12, ev es 13, ev es 14, ev es 15, ev es 16, ev es 17, ev es 18, ev es 19]) rfl rfl (lB hk_8 0) (hR_ _ _ ?_)))
 exact ⟨rfl, (bg hb_2 hg_7 (Nat.le_refl _))⟩
theorem num_nil (w : World) : Calls Tryz.prog 40 #[.nilIface] w fun e w' => e = .returned (i6 0) ∧ Below w.heap.size w w' := by
 refine en Tryz.func40 rfl 18 [(0, .nilIface)] (fun R_ hR_ => ?_)
 refine sg (xe0 1 [(0, .nilIface)] ?_)
 refine nl (sq (sg (xr0 2 [(6, bT)] [] ?_)))
 refine nl (ct (sg (xe0 1 [(2, i6 0)] ?_)))
 refine nl (X_ret (rj [i6 0] hR_ ?_))
 exact ⟨rfl, (Below.refl _ _)⟩
theorem num_err (es : List Addr) (n : Nat) (hn : 0 < n) (hn' : n ≤ 19) (w : World) (h : Errs w es) : Calls Tryz.prog 40 #[.iface 301 (.pointer (some (errAt es n)))] w fun e w' => e = .returned (i6 (n : Int)) ∧ Below w.heap.size w w' := by
 refine en Tryz.func40 rfl 18 [(0, .iface 301 (.pointer (some (errAt es n))))] (fun R_ hR_ => ?_)
 refine sg (xe0 1 [(0, .iface 301 (.pointer (some (errAt es n))))] ?_)
 refine nl (sq (sg (xr0 2 [(6, bF)] [] ?_)))
 refine nl (cf (sk (sq (sg (xc 108 ent108 [] (list_any es _ (h.below (Below.refl _ _))) ?_)))))
 rintro e w_1 ⟨rfl, hb_2⟩; refine ⟨_, rfl, ?_⟩
 refine xr0 1 [(7, .agg (errAgg es)), (8, i6 0)] [6] ?_
 refine nl (bk (X_loop (ι := Nat) (fun i => [(0, .iface 301 (.pointer (some (errAt es n)))), (7, .agg (errAgg es)), (8, i6 (i : Int))]) (fun i wl => i < n ∧ Below w.heap.size w wl) (fun i => n - i) 0 ⟨by omega, hb_2⟩ (by kernel_rfl) ?_))
 rintro i wl ⟨hi, HB⟩
 refine sq (X_region ?_)
 by_cases c_3 : (i : Int) < 19
 ·refine xr1 1 [(9, .eq bT)] [(9, bT)] [] (dT c_3) ?_
  refine nl (sq (ct (sk (sq (bk (sg (xr 4 [(11, .as (.iface 301 (.pointer (some (errAt es (i + 1))))))] [(3, nv i), (4, .iface 301 (.pointer (some (errAt es (i + 1)))))] [9] [RunsAs Tryz.prog [(7, .agg (errAgg es)), (8, i6 (i : Int))] (Go.Op.index 152 (Go.Operand.tmp 7) (Go.Operand.tmp 8)) 35 (.iface 301 (.pointer (some (errAt es (i + 1))))) wl] ⟨runs_index rfl rfl (err_index es i (by omega) _), trivial⟩ ?_)))))))
  refine nl (sg (xr0 2 [(12, .iface 301 (.pointer (some (errAt es n)))), (13, .iface 301 (.pointer (some (errAt es (i + 1)))))] [4] ?_))
  by_cases c_4 : n = i + 1
  ·refine xr 1 [(14, .as bT)] [(14, bT)] [12, 13] [RunsAs Tryz.prog [(12, .iface 301 (.pointer (some (errAt es n)))), (13, .iface 301 (.pointer (some (errAt es (i + 1)))))] (Go.Op.binOp Go.BinOp.eql 35 (Go.Operand.tmp 12) (Go.Operand.tmp 13) 35) 4 bT wl] ⟨runs_bin rfl rfl rfl (by have h := (h.below HB).eql (n := n) (m := i + 1) (by omega) (by omega) (by omega) (by omega); rw [decide_eq_true c_4] at h; exact h), trivial⟩ ?_
   refine nl (ct (sg (xe1 3 [(16, .eq (i6 ((i : Int) + 1)))] [(2, i6 ((i : Int) + 1))] (w6 ((i : Int) + 1)) ?_)))
   refine nl (X_ret (rj [i6 ((i : Int) + 1)] hR_ ?_))
   exact ⟨ret_int (by omega), HB⟩
  refine xr 1 [(14, .as bF)] [(14, bF)] [12, 13] [RunsAs Tryz.prog [(12, .iface 301 (.pointer (some (errAt es n)))), (13, .iface 301 (.pointer (some (errAt es (i + 1)))))] (Go.Op.binOp Go.BinOp.eql 35 (Go.Operand.tmp 12) (Go.Operand.tmp 13) 35) 4 bF wl] ⟨runs_bin rfl rfl rfl (by have h := (h.below HB).eql (n := n) (m := i + 1) (by omega) (by omega) (by omega) (by omega); rw [decide_eq_false c_4] at h; exact h), trivial⟩ ?_
  refine nl (cf (sk (rg (xr1 2 [(17, .eq (i6 ((i : Int) + 1)))] [(8, i6 ((i : Int) + 1))] [3, 14] (w6 ((i : Int) + 1)) ?_))))
  refine nl ?_
  refine ⟨(i + 1), by kernel_rfl, ?_, ?_⟩
  ·exact ⟨by omega, HB⟩
  (try dsimp only); omega
 exfalso; omega
theorem num_any (es : List Addr) (n : Nat) (hn : n ≤ 19) (w : World) (h : Errs w es) : Calls Tryz.prog 40 #[errV es n] w fun e w' => e = .returned (i6 (n : Int)) ∧ Below w.heap.size w w' := by
 by_cases h0 : n = 0
 ·subst h0
  exact num_nil w
 rw [errV_pos _ _ (by omega)]
 exact num_err es n (by omega) hn w h
end Go.Proofs.YtgphmfnkeolbcaaGreatDoor
set_option linter.unusedVariables false
set_option linter.unusedSimpArgs false
set_option maxRecDepth 100000
namespace Go.Proofs.YtgphmfnkeolbcaaGreatDoor
open Go Go.RowKit Go.Proofs.YtgphmfnkeolbcaaGreatDoorW.PrintWords RX
theorem lnAt_le (xs : List OpA) (p : Int) : (lnAt xs p).2.2 ≤ 19 := by
 have := lnErr_le xs
 unfold lnAt; split; exact this; split <;> (first | exact Nat.zero_le _ | exact (by decide : 12 ≤ 19))
theorem lnPlace_le (xs : List OpA) (i c : Int) : (lnPlace xs i c).2 ≤ 19 := by
 have := lnErr_le xs
 unfold lnPlace; split; exact this; split <;> (first | exact Nat.zero_le _ | exact (by decide : 12 ≤ 19))
theorem lnTouched_le (xs : List OpA) (i c : Int) : (lnTouched xs i c).2.2 ≤ 19 := by
 have h1 := lnAt_le xs i
 have h2 := lnAt_le xs (i + c - 1)
 unfold lnTouched; split; exact h1; split; exact (by decide : 12 ≤ 19); split; exact Nat.zero_le _; split; exact h2; exact Nat.zero_le _
theorem fine_all2 {xs : List OpA} (hz : ∀ i, i < xs.length → opSz (xs.getD i op0)) : ∀ o ∈ xs, B.fine o := fun o ho => by
 obtain ⟨i, hi, rfl⟩ := List.getElem_of_mem ho
 have := hz i hi
 rw [List.getD_eq_getElem?_getD, List.getElem?_eq_getElem hi] at this
 exact B.fine_of this
set_option maxHeartbeats 4000000 in
theorem linesPlaces_law (A : Option Addr) (c : Nat) (xs : List OpA) (a b : Int) (w : World) (hx : kOp.C w A xs.length xs) (hxc : xs.length ≤ c) (hn : xs.length ≤ 116508) (hz : ∀ i, i < xs.length → opSz (xs.getD i op0)) (ha : -9223372036854775808 ≤ a ∧ a ≤ 9223372036854775807) (hb : -9223372036854775808 ≤ b ∧ b ≤ 9223372036854775807) (hT : Tabs w) (es : List Addr) (hE : Errs w es) : Calls Tryz.prog 6 #[.slice A xs.length c, i6 a, i6 b] w fun e w' => e = .returned bT ∧ Below w.heap.size w w' := by
 have hO : ErrsO w es := hE.on rfl
 have hEL : ErrsL w es := hE.on rfl
 refine en Tryz.func6 rfl 117 [(0, aL A xs c), (1, i6 a), (2, i6 b)] (fun R_ hR_ => ?_)
 refine sg (xe0 1 [(0, aL A xs c), (1, i6 a), (2, i6 b)] ?_)
 refine nl (sq (sg (xc 33 ent33 [] (lives21_any _ (hT.below (Below.refl _ _)) es (hEL.below (Below.refl _ _))) ?_)))
 rintro e w_1 ⟨rfl, hb_2⟩; refine ⟨_, rfl, ?_⟩
 refine xr0 1 [(23, bF)] [22] ?_
 refine nl (cf (sk (sq (sg (xr0 1 [(24, aL A xs c)] [23] ?_)))))
 refine xc 34 ent34 [aL A xs c] (heavy_any _ _ xs _ (Kd.C_below hx hb_2) (by omega) hz) ?_
 rintro e w_3 ⟨rfl, hb_4⟩; refine ⟨_, rfl, ?_⟩
 refine nl ?_
 by_cases c_5 : decide (6000 < hvS xs) = true
 ·rw [show (decide (6000 < hvS xs) : Bool) = true from by simpa using c_5]
  refine ct (sg (xe0 1 [(6, bT)] ?_))
  refine nl (X_ret (rj [bT] hR_ ?_))
  exact ⟨rfl, (bt hb_2 hb_4)⟩
 have hlg := of_decide_eq_false (Bool.eq_false_iff.2 c_5)
 obtain ⟨hlg1, hlg2⟩ := hvS_bd xs
 rw [show (decide (6000 < hvS xs) : Bool) = false from by simpa using c_5]
 refine cf (sk (sg (xr0 1 [(27, aL A xs c)] [0, 24, 25] ?_)))
 refine xc 35 ent35 [aL A xs c] (made_any _ _ xs _ (Kd.C_below hx (bt hb_2 hb_4)) hxc (by omega) hz (by omega) (hT.below (bt hb_2 hb_4)) es (hO.below (bt hb_2 hb_4))) ?_
 rintro e w_6 ⟨hb_7, ⟨hb0_8, d, A_9, c_10, A_11, c_12, rfl, hd_13, hm_14⟩ | ⟨hb0_8, rfl⟩⟩
 ·refine ⟨_, rfl, ?_⟩
  obtain ⟨hcb_d, hcn_d, hcz_d, hcc_d⟩ := can_facts (xs := xs) hb0_8 (by omega) hz (by omega)
  have hcs_d := (B.of_can hcc_d).2.1
  have hcf_d : (cellsAll (B.can xs)).length ≤ 100000000 := by have h1_ := cellsAll_few (B.can xs); have h2_ := B.can_tx (fine_all2 hz); have h3_ := B.can_len xs; omega
  have hD_d := hd_13.c
  have hC_15 : kOp.C w_6 A_11 (B.can xs).length (B.can xs) := MixK.C hm_14 hb_7
  refine xr0 7 [(7, pw d 0), (8, aL A_11 (B.can xs) c_12), (9, bT)] [27, 28] ?_
  refine nl (sq (sg (xr0 2 [(33, bF)] [9] ?_)))
  refine nl (cf (sk (sq (sg (xe0 2 [(1, i6 a), (2, i6 b), (7, pw d 0), (8, aL A_11 (B.can xs) c_12), (35, bF)] ?_)))))
  refine nl (cf (sk (sg (xr0 2 [(37, pw d 0), (38, i6 a)] [35] ?_))))
  refine xc 45 ent45 [pw d 0, i6 a] (lat_any d (B.can xs) a _ hD_d hcb_d hcs_d hcn_d hcz_d hcf_d (hT.below (bt (bt hb_2 hb_4) hb_7)) es (hEL.below (bt (bt hb_2 hb_4) hb_7)) ha) ?_
  rintro e w_16 ⟨rfl, hb_17⟩; refine ⟨_, rfl, ?_⟩
  refine xr0 7 [(10, i6 ((lnAt (B.can xs) a).1)), (11, i6 ((lnAt (B.can xs) a).2.1)), (12, errV es ((lnAt (B.can xs) a).2.2))] [37, 38, 39] ?_
  refine nl (sg (xr0 2 [(44, aL A_11 (B.can xs) c_12), (45, i6 a)] [] ?_))
  refine xc 46 ent46 [.slice A_11 ((B.can xs).length) c_12, i6 a] (r21at_any _ _ (B.can xs) a _ (Kd.C_below hC_15 hb_17) (by omega) hcz_d hcf_d ha) ?_
  rintro e w_18 ⟨rfl, hb_19⟩; refine ⟨_, rfl, ?_⟩
  refine xr0 7 [(13, i6 ((lnAt (B.can xs) a).1)), (14, i6 ((lnAt (B.can xs) a).2.1)), (15, i6 ((lnAt (B.can xs) a).2.2 : Int))] [44, 45, 46] ?_
  refine nl (sq (sg (xr 10 [(52, .eq bF), (56, .eq bF)] [(58, bF), (59, errV es ((lnAt (B.can xs) a).2.2))] [10, 11, 12, 13, 14] [Value.bool ((lnAt (B.can xs) a).1 != (lnAt (B.can xs) a).1) = bF, Value.bool ((lnAt (B.can xs) a).2.1 != (lnAt (B.can xs) a).2.1) = bF] ⟨congrArg Value.bool (bneF rfl), congrArg Value.bool (bneF rfl), trivial⟩ ?_)))
  have hB_20 : Below w.heap.size w w_18 := (bt (bt (bt (bt hb_2 hb_4) hb_7) hb_17) hb_19)
  refine xc 40 ent40 [errV es ((lnAt (B.can xs) a).2.2)] (num_any es ((lnAt (B.can xs) a).2.2) (lnAt_le (B.can xs) a) _ (hE.below hB_20)) ?_
  rintro e w_21 ⟨rfl, hb_22⟩; refine ⟨_, rfl, ?_⟩
  refine xe 3 [(62, .eq bF)] [(1, i6 a), (2, i6 b), (7, pw d 0), (8, aL A_11 (B.can xs) c_12), (63, bF)] [Value.bool (((lnAt (B.can xs) a).2.2 : Int) != ((lnAt (B.can xs) a).2.2 : Int)) = bF] ⟨congrArg Value.bool (bneF rfl), trivial⟩ ?_
  refine nl (cf (sk (sg (xr0 3 [(65, pw d 0), (66, i6 a), (67, i6 b)] [63] ?_))))
  refine xc 47 ent47 [pw d 0, i6 a, i6 b] (lplace_any d (B.can xs) a b _ (hD_d.below (bt (bt hb_17 hb_19) hb_22)) hcb_d hcs_d hcn_d hcz_d hcf_d (hT.below (bt hB_20 hb_22)) es (hEL.below (bt hB_20 hb_22))) ?_
  rintro e w_23 ⟨rfl, hb_24⟩; refine ⟨_, rfl, ?_⟩
  refine xr0 5 [(12, errV es ((lnPlace (B.can xs) a b).2)), (16, i6 ((lnPlace (B.can xs) a b).1))] [65, 66, 67, 68] ?_
  refine nl (sg (xr0 3 [(72, aL A_11 (B.can xs) c_12), (73, i6 a), (74, i6 b)] [] ?_))
  refine xc 48 ent48 [.slice A_11 ((B.can xs).length) c_12, i6 a, i6 b] (r21place_any _ _ (B.can xs) a b _ (Kd.C_below hC_15 (bt (bt (bt hb_17 hb_19) hb_22) hb_24)) (by omega) hcz_d hcf_d) ?_
  rintro e w_25 ⟨rfl, hb_26⟩; refine ⟨_, rfl, ?_⟩
  refine xr0 5 [(15, i6 ((lnPlace (B.can xs) a b).2 : Int)), (17, i6 ((lnPlace (B.can xs) a b).1))] [72, 73, 74, 75] ?_
  refine nl (sq (sg (xr 5 [(80, .eq bF)] [(81, bF), (82, errV es ((lnPlace (B.can xs) a b).2))] [12, 16, 17] [Value.bool ((lnPlace (B.can xs) a b).1 != (lnPlace (B.can xs) a b).1) = bF] ⟨congrArg Value.bool (bneF rfl), trivial⟩ ?_)))
  refine xc 40 ent40 [errV es ((lnPlace (B.can xs) a b).2)] (num_any es ((lnPlace (B.can xs) a b).2) (lnPlace_le (B.can xs) a b) _ (hE.below (bt (bt (bt hB_20 hb_22) hb_24) hb_26))) ?_
  rintro e w_27 ⟨rfl, hb_28⟩; refine ⟨_, rfl, ?_⟩
  refine xe 3 [(85, .eq bF)] [(1, i6 a), (2, i6 b), (7, pw d 0), (8, aL A_11 (B.can xs) c_12), (86, bF)] [Value.bool (((lnPlace (B.can xs) a b).2 : Int) != ((lnPlace (B.can xs) a b).2 : Int)) = bF] ⟨congrArg Value.bool (bneF rfl), trivial⟩ ?_
  refine nl (cf (sk (sg (xr0 3 [(88, pw d 0), (89, i6 a), (90, i6 b)] [7, 86] ?_))))
  have hB_29 : Below w_6.heap.size w_6 w_27 := (bt (bt (bt (bt (bt hb_17 hb_19) hb_22) hb_24) hb_26) hb_28)
  have hB_30 : Below w.heap.size w w_27 := (bt (bt (bt (bt hB_20 hb_22) hb_24) hb_26) hb_28)
  refine xc 49 ent49 [pw d 0, i6 a, i6 b] (ltouched_any d (B.can xs) a b _ (hD_d.below hB_29) hcb_d hcs_d hcn_d hcz_d hcf_d (hT.below hB_30) es (hEL.below hB_30) ha hb) ?_
  rintro e w_31 ⟨rfl, hb_32⟩; refine ⟨_, rfl, ?_⟩
  refine xr0 7 [(12, errV es ((lnTouched (B.can xs) a b).2.2)), (18, i6 ((lnTouched (B.can xs) a b).1)), (19, i6 ((lnTouched (B.can xs) a b).2.1))] [88, 89, 90, 91] ?_
  refine nl (sg (xr0 3 [(96, aL A_11 (B.can xs) c_12), (97, i6 a), (98, i6 b)] [1, 2, 8] ?_))
  refine xc 50 ent50 [.slice A_11 ((B.can xs).length) c_12, i6 a, i6 b] (r21touched_any _ _ (B.can xs) a b _ (Kd.C_below hC_15 (bt hB_29 hb_32)) (by omega) hcz_d hcf_d ha hb) ?_
  rintro e w_33 ⟨rfl, hb_34⟩; refine ⟨_, rfl, ?_⟩
  refine xr0 7 [(15, i6 ((lnTouched (B.can xs) a b).2.2 : Int)), (20, i6 ((lnTouched (B.can xs) a b).1)), (21, i6 ((lnTouched (B.can xs) a b).2.1))] [96, 97, 98, 99] ?_
  refine nl (sg (xr 10 [(105, .eq bT), (109, .eq bT)] [(111, bT), (112, errV es ((lnTouched (B.can xs) a b).2.2))] [12, 18, 19, 20, 21] [Value.bool ((lnTouched (B.can xs) a b).1 == (lnTouched (B.can xs) a b).1) = bT, Value.bool ((lnTouched (B.can xs) a b).2.1 == (lnTouched (B.can xs) a b).2.1) = bT] ⟨congrArg Value.bool (beq_self_eq_true _), congrArg Value.bool (beq_self_eq_true _), trivial⟩ ?_))
  refine xc 40 ent40 [errV es ((lnTouched (B.can xs) a b).2.2)] (num_any es ((lnTouched (B.can xs) a b).2.2) (lnTouched_le (B.can xs) a b) _ (hE.below (bt (bt hB_30 hb_32) hb_34))) ?_
  rintro e w_35 ⟨rfl, hb_36⟩; refine ⟨_, rfl, ?_⟩
  refine xe 4 [(115, .eq bT)] [(6, bT)] [Value.bool (((lnTouched (B.can xs) a b).2.2 : Int) == ((lnTouched (B.can xs) a b).2.2 : Int)) = bT] ⟨congrArg Value.bool (beq_self_eq_true _), trivial⟩ ?_
  refine nl (X_ret (rj [bT] hR_ ?_))
  exact ⟨rfl, (bt (bt (bt hB_30 hb_32) hb_34) hb_36)⟩
 refine ⟨_, rfl, ?_⟩
 refine xr0 7 [(7, .pointer none), (8, .slice none 0 0), (9, bF)] [27, 28] ?_
 refine nl (sq (sg (xr0 2 [(33, bT)] [9] ?_)))
 refine nl (ct (sg (xe0 1 [(6, bT)] ?_)))
 refine nl (X_ret (rj [bT] hR_ ?_))
 exact ⟨rfl, (bt (bt hb_2 hb_4) hb_7)⟩
end Go.Proofs.YtgphmfnkeolbcaaGreatDoor
