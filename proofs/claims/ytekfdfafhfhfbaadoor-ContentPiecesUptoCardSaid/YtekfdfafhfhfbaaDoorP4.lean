/- What vellumlaw04.lives answers. Conditions: the tables of utf8, the errors' variables. -/
import Derived.Test.YtekfdfafhfhfbaaDoorCut
set_option linter.unusedVariables false
set_option linter.unusedSimpArgs false
set_option maxRecDepth 100000
namespace Go.Proofs.YtekfdfafhfhfbaaDoor
open Go Go.RowKit Go.Proofs.YtekfdfafhfhfbaaDoorW.PrintWords RX
theorem ent45 : Ent Tryd.prog 45 := ent_of Tryd.func45 (by kernel_rfl) rfl
theorem lv1 : U.utf (⟨#[97, 195, 169, 226, 130, 172]⟩ : ByteArray) ∧ U.sc (⟨#[97, 195, 169, 226, 130, 172]⟩ : ByteArray) = [97, 233, 8364] := U.utf_of (by decide) (by decide +kernel)
theorem lv2 : U.utf (⟨#[97, 195, 169]⟩ : ByteArray) ∧ U.sc (⟨#[97, 195, 169]⟩ : ByteArray) = [97, 233] := U.utf_of (by decide) (by decide +kernel)
theorem lv3 : U.utf (⟨#[226, 130, 172]⟩ : ByteArray) ∧ U.sc (⟨#[226, 130, 172]⟩ : ByteArray) = [8364] := U.utf_of (by decide) (by decide +kernel)
theorem lv4 : U.utf (⟨#[98, 10]⟩ : ByteArray) ∧ U.sc (⟨#[98, 10]⟩ : ByteArray) = [98, 10] := U.utf_of (by decide) (by decide +kernel)
theorem lvr1 : refuseP (⟨1, (⟨#[97, 195, 169, 226, 130, 172]⟩ : ByteArray), 0, 0, ByteArray.empty, 0, []⟩ : OpA) = 0 := by kernel_rfl
theorem lvr2 : refuseP (⟨1, (⟨#[97, 195, 169]⟩ : ByteArray), 0, 0, ByteArray.empty, 0, []⟩ : OpA) = 0 := by kernel_rfl
theorem lvr3 : refuseP (⟨1, (⟨#[226, 130, 172]⟩ : ByteArray), 0, 0, ByteArray.empty, 0, []⟩ : OpA) = 0 := by kernel_rfl
theorem lvrx : refuseP (⟨2, (⟨#[120]⟩ : ByteArray), 0, 0, ByteArray.empty, 0, []⟩ : OpA) = 0 := by kernel_rfl
theorem lvrb : refuseP (⟨1, (⟨#[98, 10]⟩ : ByteArray), 0, 0, ByteArray.empty, 0, []⟩ : OpA) = 0 := by kernel_rfl
theorem lv_cut : cutO (⟨1, (⟨#[97, 195, 169, 226, 130, 172]⟩ : ByteArray), 0, 0, ByteArray.empty, 0, []⟩ : OpA) 2 = ((⟨1, (⟨#[97, 195, 169]⟩ : ByteArray), 0, 0, ByteArray.empty, 0, []⟩ : OpA), (⟨1, (⟨#[226, 130, 172]⟩ : ByteArray), 0, 0, ByteArray.empty, 0, []⟩ : OpA), 0) := by
  have hl : (U.sc (⟨#[97, 195, 169, 226, 130, 172]⟩ : ByteArray)).length = 3 := by rw [lv1.2]; rfl
  have hc := cut_of lv1.1 (q := 2) (by omega) (by rw [hl]; decide)
  obtain ⟨e, _⟩ := cut_fine (o := (⟨1, (⟨#[97, 195, 169, 226, 130, 172]⟩ : ByteArray), 0, 0, ByteArray.empty, 0, []⟩ : OpA)) lvr1 rfl (n := 2) (by omega) (by show (2 : Int) < ((U.sc (⟨#[97, 195, 169, 226, 130, 172]⟩ : ByteArray)).length : Int); rw [hl]; decide)
  have e1 : (U.cutP (⟨#[97, 195, 169, 226, 130, 172]⟩ : ByteArray) 2).1 = (⟨#[97, 195, 169]⟩ : ByteArray) := utf_eq hc.ua lv2.1 (by rw [hc.sa, lv1.2, lv2.2]; rfl)
  have e2 : (U.cutP (⟨#[97, 195, 169, 226, 130, 172]⟩ : ByteArray) 2).2.1 = (⟨#[226, 130, 172]⟩ : ByteArray) := utf_eq hc.ub lv3.1 (by rw [hc.sb, lv1.2, lv3.2]; rfl)
  have e' : cutO (⟨1, (⟨#[97, 195, 169, 226, 130, 172]⟩ : ByteArray), 0, 0, ByteArray.empty, 0, []⟩ : OpA) 2 = (mkT (U.cutP (⟨#[97, 195, 169, 226, 130, 172]⟩ : ByteArray) 2).1 [], mkT (U.cutP (⟨#[97, 195, 169, 226, 130, 172]⟩ : ByteArray) 2).2.1 [], 0) := e
  rw [e', e1, e2]; rfl
theorem lv_join : joinO (⟨1, (⟨#[97, 195, 169]⟩ : ByteArray), 0, 0, ByteArray.empty, 0, []⟩ : OpA) (⟨1, (⟨#[226, 130, 172]⟩ : ByteArray), 0, 0, ByteArray.empty, 0, []⟩ : OpA) = ((⟨1, (⟨#[97, 195, 169, 226, 130, 172]⟩ : ByteArray), 0, 0, ByteArray.empty, 0, []⟩ : OpA), true, 0) := by rw [join_mk lvr2 lvr3 rfl rfl rfl]; rfl
theorem lv_len : lenO (⟨2, (⟨#[120]⟩ : ByteArray), 0, 0, ByteArray.empty, 0, []⟩ : OpA) = 1 := by rw [lenO_ok lvrx]; rfl
theorem lv_cells : cellsO (⟨1, (⟨#[98, 10]⟩ : ByteArray), 0, 0, ByteArray.empty, 0, []⟩ : OpA) = [cellR [] 98, cellR [] 10] := by
  rw [cellsO_ok lvrb]
  show (U.sc (⟨#[98, 10]⟩ : ByteArray)).map (cellR []) = _
  rw [lv4.2]; rfl
theorem lv_nl : nlO (⟨1, (⟨#[98, 10]⟩ : ByteArray), 0, 0, ByteArray.empty, 0, []⟩ : OpA) = 1 := by
  rw [nl_ok lvrb]
  show ((nlC ((U.sc (⟨#[98, 10]⟩ : ByteArray)).map (cellR [])) : Nat) : Int) = 1
  rw [lv4.2]; rfl
theorem opSz_e {o : OpA} (h1 : o.text.size ≤ 10) (h2 : o.vt.size = 0) (h3 : o.attrs = []) : opSz o := ⟨by omega, by omega, by rw [h3]; decide, fun i hi => by rw [h3] at hi; cases hi⟩
set_option maxHeartbeats 4000000 in
theorem lives_any (w : World) (hT : Tabs w) (es : List Addr) (hE : ErrsC w es) : Calls Tryd.prog 45 #[] w fun e w' => e = .returned (.bool true) ∧ Below w.heap.size w w' := by
  refine RX.enter Tryd.func45 rfl 117 rfl [] rfl (by kernel_rfl) (fun R_ hR_ => ?_)
  refine X_seq ?_
  refine X_region ?_
  refine XL_run 1 [] [] w [] (by kernel_rfl) trivial ?_
  refine XL_nil ?_
  refine X_seq ?_
  refine X_region ?_
  refine XL_run 1 [] [(16, .agg #[.int .i64 1, .string (⟨#[97, 195, 169, 226, 130, 172]⟩ : ByteArray), .int .i64 0, .int .i64 0, .string ByteArray.empty, .int .i64 0, .slice none 0 0])] w [] (by kernel_rfl) trivial ?_
  refine XL_call 58 rfl rfl rfl ent58 [.agg #[.int .i64 1, .string (⟨#[97, 195, 169, 226, 130, 172]⟩ : ByteArray), .int .i64 0, .int .i64 0, .string ByteArray.empty, .int .i64 0, .slice none 0 0], .int .i64 2] (by kernel_rfl) (ccut_any (⟨1, (⟨#[97, 195, 169, 226, 130, 172]⟩ : ByteArray), 0, 0, ByteArray.empty, 0, []⟩ : OpA) _ _ 2 _ ⟨rfl, by decide, fun h_ => absurd h_ (by decide)⟩ (opSz_e (by decide) rfl rfl) (by decide) (by decide) (hT.below (Below.refl _ _)) es (hE.below (Below.refl _ _))) ?_
  rintro e w_8 ⟨A_1, c_2, A_3, c_4, rfl, hr_5, hr_6, hne_7, hb_9⟩; refine ⟨_, rfl, ?_⟩
  rw [lv_cut]
  refine XL_run 5 [] [(1, .pointer (some ⟨w_8.heap.size, 0, none⟩)), (18, .agg #[.int .i64 1, .string (⟨#[97, 195, 169]⟩ : ByteArray), .int .i64 0, .int .i64 0, .string ByteArray.empty, .int .i64 0, .slice A_1 0 c_2]), (19, .agg #[.int .i64 1, .string (⟨#[226, 130, 172]⟩ : ByteArray), .int .i64 0, .int .i64 0, .string ByteArray.empty, .int .i64 0, .slice A_3 0 c_4]), (20, .nilIface)] (w_8.alloc (.cells #[.int .i64 0, .string ByteArray.empty, .int .i64 0, .int .i64 0, .string ByteArray.empty, .int .i64 0, .slice none 0 0] 33)) [] (by kernel_rfl) trivial ?_
  obtain ⟨w_10, hw_14, hb_11, hk_12, hz_13⟩ := new_world w_8 #[.int .i64 0, .string ByteArray.empty, .int .i64 0, .int .i64 0, .string ByteArray.empty, .int .i64 0, .slice none 0 0] 33
  rw [hw_14]
  refine XL_run 1 [] [(1, .pointer (some ⟨w_8.heap.size, 0, none⟩)), (2, .pointer (some ⟨w_10.heap.size, 0, none⟩)), (18, .agg #[.int .i64 1, .string (⟨#[97, 195, 169]⟩ : ByteArray), .int .i64 0, .int .i64 0, .string ByteArray.empty, .int .i64 0, .slice A_1 0 c_2]), (19, .agg #[.int .i64 1, .string (⟨#[226, 130, 172]⟩ : ByteArray), .int .i64 0, .int .i64 0, .string ByteArray.empty, .int .i64 0, .slice A_3 0 c_4]), (20, .nilIface)] (w_10.alloc (.cells #[.int .i64 0, .string ByteArray.empty, .int .i64 0, .int .i64 0, .string ByteArray.empty, .int .i64 0, .slice none 0 0] 33)) [] (by kernel_rfl) trivial ?_
  obtain ⟨w_15, hw_19, hb_16, hk_17, hz_18⟩ := new_world w_10 #[.int .i64 0, .string ByteArray.empty, .int .i64 0, .int .i64 0, .string ByteArray.empty, .int .i64 0, .slice none 0 0] 33
  rw [hw_19]
  refine XL_store (v := .agg #[.int .i64 1, .string (⟨#[97, 195, 169]⟩ : ByteArray), .int .i64 0, .int .i64 0, .string ByteArray.empty, .int .i64 0, .slice A_1 0 c_2]) rfl rfl rfl (by kernel_rfl) (Blk.below hk_12 hb_16) 0 [.int .i64 1, .string (⟨#[97, 195, 169]⟩ : ByteArray), .int .i64 0, .int .i64 0, .string ByteArray.empty, .int .i64 0, .slice A_1 0 c_2] #[.int .i64 1, .string (⟨#[97, 195, 169]⟩ : ByteArray), .int .i64 0, .int .i64 0, .string ByteArray.empty, .int .i64 0, .slice A_1 0 c_2] ⟨by kernel_rfl, rfl, by kernel_rfl⟩ ⟨by kernel_rfl, by kernel_rfl⟩ (Nat.le_of_ble_eq_true (by kernel_rfl)) (fun w_20 hg_21 hk_22 hz_23 => ?_)
  have hne_24 : w_10.heap.size ≠ w_8.heap.size := Nat.ne_of_gt (Nat.lt_of_lt_of_le (Blk.lt hk_12) (Nat.le_refl _))
  have hk_25 := Blk.other hk_17 hg_21 hne_24
  refine XL_store (v := .agg #[.int .i64 1, .string (⟨#[226, 130, 172]⟩ : ByteArray), .int .i64 0, .int .i64 0, .string ByteArray.empty, .int .i64 0, .slice A_3 0 c_4]) rfl rfl rfl (by kernel_rfl) hk_25 0 [.int .i64 1, .string (⟨#[226, 130, 172]⟩ : ByteArray), .int .i64 0, .int .i64 0, .string ByteArray.empty, .int .i64 0, .slice A_3 0 c_4] #[.int .i64 1, .string (⟨#[226, 130, 172]⟩ : ByteArray), .int .i64 0, .int .i64 0, .string ByteArray.empty, .int .i64 0, .slice A_3 0 c_4] ⟨by kernel_rfl, rfl, by kernel_rfl⟩ ⟨by kernel_rfl, by kernel_rfl⟩ (Nat.le_of_ble_eq_true (by kernel_rfl)) (fun w_26 hg_27 hk_28 hz_29 => ?_)
  have hne_30 : w_8.heap.size ≠ w_10.heap.size := Nat.ne_of_lt (Nat.lt_of_lt_of_le (Blk.lt hk_12) (Nat.le_refl _))
  have hk_31 := Blk.other hk_22 hg_27 hne_30
  refine XL_run 1 [] [(1, .pointer (some ⟨w_8.heap.size, 0, none⟩)), (2, .pointer (some ⟨w_10.heap.size, 0, none⟩)), (3, .nilIface)] w_26 [] (by kernel_rfl) trivial ?_
  refine XL_nil ?_
  refine X_seq ?_
  refine X_region ?_
  refine XL_run 2 [(22, .load (.agg #[.int .i64 1, .string (⟨#[97, 195, 169]⟩ : ByteArray), .int .i64 0, .int .i64 0, .string ByteArray.empty, .int .i64 0, .slice A_1 0 c_2])), (23, .load (.agg #[.int .i64 1, .string (⟨#[226, 130, 172]⟩ : ByteArray), .int .i64 0, .int .i64 0, .string ByteArray.empty, .int .i64 0, .slice A_3 0 c_4]))] [(1, .pointer (some ⟨w_8.heap.size, 0, none⟩)), (2, .pointer (some ⟨w_10.heap.size, 0, none⟩)), (3, .nilIface), (22, .agg #[.int .i64 1, .string (⟨#[97, 195, 169]⟩ : ByteArray), .int .i64 0, .int .i64 0, .string ByteArray.empty, .int .i64 0, .slice A_1 0 c_2]), (23, .agg #[.int .i64 1, .string (⟨#[226, 130, 172]⟩ : ByteArray), .int .i64 0, .int .i64 0, .string ByteArray.empty, .int .i64 0, .slice A_3 0 c_4])] w_26 [LoadsAs Tryd.prog 33 (⟨w_8.heap.size, 0, none⟩) (.agg #[.int .i64 1, .string (⟨#[97, 195, 169]⟩ : ByteArray), .int .i64 0, .int .i64 0, .string ByteArray.empty, .int .i64 0, .slice A_1 0 c_2]) w_26, LoadsAs Tryd.prog 33 (⟨w_10.heap.size, 0, none⟩) (.agg #[.int .i64 1, .string (⟨#[226, 130, 172]⟩ : ByteArray), .int .i64 0, .int .i64 0, .string ByteArray.empty, .int .i64 0, .slice A_3 0 c_4]) w_26] (by kernel_rfl) ⟨loadsB rfl rfl hk_31 0 ⟨by kernel_rfl, by kernel_rfl⟩, loadsB rfl rfl hk_28 0 ⟨by kernel_rfl, by kernel_rfl⟩, trivial⟩ ?_
  have hB_37 : Below w.heap.size w w_26 := (bg (bg (bt (bt hb_9 hb_11) hb_16) hg_21 (hb_9).size) hg_27 ((bt hb_9 hb_11)).size)
  refine XL_call 61 rfl rfl rfl ent61 [.agg #[.int .i64 1, .string (⟨#[97, 195, 169]⟩ : ByteArray), .int .i64 0, .int .i64 0, .string ByteArray.empty, .int .i64 0, .slice A_1 0 c_2], .agg #[.int .i64 1, .string (⟨#[226, 130, 172]⟩ : ByteArray), .int .i64 0, .int .i64 0, .string ByteArray.empty, .int .i64 0, .slice A_3 0 c_4]] (by kernel_rfl) (cjoin_any (⟨1, (⟨#[97, 195, 169]⟩ : ByteArray), 0, 0, ByteArray.empty, 0, []⟩ : OpA) (⟨1, (⟨#[226, 130, 172]⟩ : ByteArray), 0, 0, ByteArray.empty, 0, []⟩ : OpA) _ _ _ _ _ ⟨rfl, by decide, fun h_ => absurd h_ (by decide)⟩ ⟨rfl, by decide, fun h_ => absurd h_ (by decide)⟩ (opSz_e (by decide) rfl rfl) (opSz_e (by decide) rfl rfl) (hT.below hB_37) es (hE.below hB_37)) ?_
  rintro e w_35 ⟨A_32, c_33, rfl, hr_34, hb_36⟩; refine ⟨_, rfl, ?_⟩
  rw [lv_join]
  refine XL_run 5 [] [(1, .pointer (some ⟨w_8.heap.size, 0, none⟩)), (2, .pointer (some ⟨w_10.heap.size, 0, none⟩)), (3, .nilIface), (4, .pointer (some ⟨w_35.heap.size, 0, none⟩)), (25, .agg #[.int .i64 1, .string (⟨#[97, 195, 169, 226, 130, 172]⟩ : ByteArray), .int .i64 0, .int .i64 0, .string ByteArray.empty, .int .i64 0, .slice A_32 0 c_33]), (26, .bool true), (27, .nilIface)] (w_35.alloc (.cells #[.int .i64 0, .string ByteArray.empty, .int .i64 0, .int .i64 0, .string ByteArray.empty, .int .i64 0, .slice none 0 0] 33)) [] (by kernel_rfl) trivial ?_
  obtain ⟨w_38, hw_42, hb_39, hk_40, hz_41⟩ := new_world w_35 #[.int .i64 0, .string ByteArray.empty, .int .i64 0, .int .i64 0, .string ByteArray.empty, .int .i64 0, .slice none 0 0] 33
  rw [hw_42]
  refine XL_store (v := .agg #[.int .i64 1, .string (⟨#[97, 195, 169, 226, 130, 172]⟩ : ByteArray), .int .i64 0, .int .i64 0, .string ByteArray.empty, .int .i64 0, .slice A_32 0 c_33]) rfl rfl rfl (by kernel_rfl) hk_40 0 [.int .i64 1, .string (⟨#[97, 195, 169, 226, 130, 172]⟩ : ByteArray), .int .i64 0, .int .i64 0, .string ByteArray.empty, .int .i64 0, .slice A_32 0 c_33] #[.int .i64 1, .string (⟨#[97, 195, 169, 226, 130, 172]⟩ : ByteArray), .int .i64 0, .int .i64 0, .string ByteArray.empty, .int .i64 0, .slice A_32 0 c_33] ⟨by kernel_rfl, rfl, by kernel_rfl⟩ ⟨by kernel_rfl, by kernel_rfl⟩ (Nat.le_of_ble_eq_true (by kernel_rfl)) (fun w_43 hg_44 hk_45 hz_46 => ?_)
  refine XL_run 2 [] [(1, .pointer (some ⟨w_8.heap.size, 0, none⟩)), (2, .pointer (some ⟨w_10.heap.size, 0, none⟩)), (3, .nilIface), (4, .pointer (some ⟨w_35.heap.size, 0, none⟩)), (5, .bool true), (6, .nilIface)] w_43 [] (by kernel_rfl) trivial ?_
  refine XL_nil ?_
  refine X_seq ?_
  refine X_region ?_
  refine XL_run 1 [] [(1, .pointer (some ⟨w_8.heap.size, 0, none⟩)), (2, .pointer (some ⟨w_10.heap.size, 0, none⟩)), (3, .nilIface), (4, .pointer (some ⟨w_35.heap.size, 0, none⟩)), (5, .bool true), (6, .nilIface), (29, .agg #[.int .i64 2, .string (⟨#[120]⟩ : ByteArray), .int .i64 0, .int .i64 0, .string ByteArray.empty, .int .i64 0, .slice none 0 0])] w_43 [] (by kernel_rfl) trivial ?_
  have hB_47 : Below w.heap.size w w_43 := (bg (bt (bt hB_37 hb_36) hb_39) hg_44 ((bt hB_37 hb_36)).size)
  refine XL_call 48 rfl rfl rfl ent48 [.agg #[.int .i64 2, .string (⟨#[120]⟩ : ByteArray), .int .i64 0, .int .i64 0, .string ByteArray.empty, .int .i64 0, .slice none 0 0]] (by kernel_rfl) (clen_any (⟨2, (⟨#[120]⟩ : ByteArray), 0, 0, ByteArray.empty, 0, []⟩ : OpA) _ _ _ ⟨rfl, by decide, fun h_ => absurd h_ (by decide)⟩ (opSz_e (by decide) rfl rfl) (hT.below hB_47) es (hE.below hB_47)) ?_
  rintro e w_48 ⟨rfl, hb_49⟩; refine ⟨_, rfl, ?_⟩
  rw [lv_len, lvrx]
  refine XL_run 5 [] [(1, .pointer (some ⟨w_8.heap.size, 0, none⟩)), (2, .pointer (some ⟨w_10.heap.size, 0, none⟩)), (3, .nilIface), (4, .pointer (some ⟨w_35.heap.size, 0, none⟩)), (5, .bool true), (6, .nilIface), (7, .int .i64 1), (8, .nilIface)] w_48 [] (by kernel_rfl) trivial ?_
  refine XL_nil ?_
  refine X_seq ?_
  refine X_region ?_
  refine XL_run 1 [] [(1, .pointer (some ⟨w_8.heap.size, 0, none⟩)), (2, .pointer (some ⟨w_10.heap.size, 0, none⟩)), (3, .nilIface), (4, .pointer (some ⟨w_35.heap.size, 0, none⟩)), (5, .bool true), (6, .nilIface), (7, .int .i64 1), (8, .nilIface), (34, .agg #[.int .i64 1, .string (⟨#[98, 10]⟩ : ByteArray), .int .i64 0, .int .i64 0, .string ByteArray.empty, .int .i64 0, .slice none 0 0])] w_48 [] (by kernel_rfl) trivial ?_
  refine XL_call 49 rfl rfl rfl ent49 [.agg #[.int .i64 1, .string (⟨#[98, 10]⟩ : ByteArray), .int .i64 0, .int .i64 0, .string ByteArray.empty, .int .i64 0, .slice none 0 0]] (by kernel_rfl) (ccells_any (⟨1, (⟨#[98, 10]⟩ : ByteArray), 0, 0, ByteArray.empty, 0, []⟩ : OpA) _ _ _ ⟨rfl, by decide, fun h_ => absurd h_ (by decide)⟩ (opSz_e (by decide) rfl rfl) (hT.below (bt hB_47 hb_49)) es (hE.below (bt hB_47 hb_49))) ?_
  rintro e w_53 ⟨A_50, c_51, rfl, hr_52, hb_54⟩; refine ⟨_, rfl, ?_⟩
  rw [lv_cells] at hr_52 ⊢; rw [lvrb]
  replace hr_52 : kCell.R 98 w_53 w_48.heap.size (OkFrom w_48.heap.size) (.slice A_50 2 c_51) [cellR [] 98, cellR [] 10] := hr_52
  refine XL_run 5 [] [(1, .pointer (some ⟨w_8.heap.size, 0, none⟩)), (2, .pointer (some ⟨w_10.heap.size, 0, none⟩)), (3, .nilIface), (4, .pointer (some ⟨w_35.heap.size, 0, none⟩)), (5, .bool true), (6, .nilIface), (7, .int .i64 1), (8, .nilIface), (9, .slice A_50 2 c_51), (10, .nilIface)] w_53 [] (by kernel_rfl) trivial ?_
  refine XL_nil ?_
  refine X_seq ?_
  refine X_region ?_
  refine XL_run 1 [] [(1, .pointer (some ⟨w_8.heap.size, 0, none⟩)), (2, .pointer (some ⟨w_10.heap.size, 0, none⟩)), (3, .nilIface), (4, .pointer (some ⟨w_35.heap.size, 0, none⟩)), (5, .bool true), (6, .nilIface), (7, .int .i64 1), (8, .nilIface), (9, .slice A_50 2 c_51), (10, .nilIface), (39, .agg #[.int .i64 1, .string (⟨#[98, 10]⟩ : ByteArray), .int .i64 0, .int .i64 0, .string ByteArray.empty, .int .i64 0, .slice none 0 0])] w_53 [] (by kernel_rfl) trivial ?_
  refine XL_call 50 rfl rfl rfl ent50 [.agg #[.int .i64 1, .string (⟨#[98, 10]⟩ : ByteArray), .int .i64 0, .int .i64 0, .string ByteArray.empty, .int .i64 0, .slice none 0 0]] (by kernel_rfl) (cnl_any (⟨1, (⟨#[98, 10]⟩ : ByteArray), 0, 0, ByteArray.empty, 0, []⟩ : OpA) _ _ _ ⟨rfl, by decide, fun h_ => absurd h_ (by decide)⟩ (opSz_e (by decide) rfl rfl) (hT.below (bt (bt hB_47 hb_49) hb_54)) es (hE.below (bt (bt hB_47 hb_49) hb_54))) ?_
  rintro e w_55 ⟨rfl, hb_56⟩; refine ⟨_, rfl, ?_⟩
  rw [lv_nl, lvrb]
  refine XL_run 5 [] [(1, .pointer (some ⟨w_8.heap.size, 0, none⟩)), (2, .pointer (some ⟨w_10.heap.size, 0, none⟩)), (3, .nilIface), (4, .pointer (some ⟨w_35.heap.size, 0, none⟩)), (5, .bool true), (6, .nilIface), (7, .int .i64 1), (8, .nilIface), (9, .slice A_50 2 c_51), (10, .nilIface), (11, .int .i64 1), (12, .nilIface)] w_55 [] (by kernel_rfl) trivial ?_
  refine XL_nil ?_
  refine X_seq ?_
  refine X_region ?_
  have hB_57 : Below w_26.heap.size w_26 w_55 := (bt (bt (bt (bg (bt hb_36 hb_39) hg_44 (hb_36).size) hb_49) hb_54) hb_56)
  refine XL_run 1 [(44, .load (.agg #[.int .i64 1, .string (⟨#[97, 195, 169]⟩ : ByteArray), .int .i64 0, .int .i64 0, .string ByteArray.empty, .int .i64 0, .slice A_1 0 c_2]))] [(1, .pointer (some ⟨w_8.heap.size, 0, none⟩)), (2, .pointer (some ⟨w_10.heap.size, 0, none⟩)), (3, .nilIface), (4, .pointer (some ⟨w_35.heap.size, 0, none⟩)), (5, .bool true), (6, .nilIface), (7, .int .i64 1), (8, .nilIface), (9, .slice A_50 2 c_51), (10, .nilIface), (11, .int .i64 1), (12, .nilIface), (44, .agg #[.int .i64 1, .string (⟨#[97, 195, 169]⟩ : ByteArray), .int .i64 0, .int .i64 0, .string ByteArray.empty, .int .i64 0, .slice A_1 0 c_2])] w_55 [LoadsAs Tryd.prog 33 (⟨w_8.heap.size, 0, none⟩) (.agg #[.int .i64 1, .string (⟨#[97, 195, 169]⟩ : ByteArray), .int .i64 0, .int .i64 0, .string ByteArray.empty, .int .i64 0, .slice A_1 0 c_2]) w_55] (by kernel_rfl) ⟨loadsB rfl rfl (Blk.below hk_31 hB_57) 0 ⟨by kernel_rfl, by kernel_rfl⟩, trivial⟩ ?_
  refine XL_call 51 rfl rfl rfl ent51 [.agg #[.int .i64 1, .string (⟨#[97, 195, 169]⟩ : ByteArray), .int .i64 0, .int .i64 0, .string ByteArray.empty, .int .i64 0, .slice A_1 0 c_2]] (by kernel_rfl) (cof_any (⟨1, (⟨#[97, 195, 169]⟩ : ByteArray), 0, 0, ByteArray.empty, 0, []⟩ : OpA) _ _ _ ⟨rfl, by decide, fun h_ => absurd h_ (by decide)⟩ (opSz_e (by decide) rfl rfl) (hT.below (bt (bt (bt hB_47 hb_49) hb_54) hb_56)) es (hE.i.below (bt (bt (bt hB_47 hb_49) hb_54) hb_56))) ?_
  rintro e w_61 ⟨v_58, rfl, hM_59, hN_60, hb_62⟩; refine ⟨_, rfl, ?_⟩
  rw [lvr2]
  have hm_65 := hM_59 lvr2
  obtain ⟨T_63, u_64, rfl⟩ := kPiece_iface (kPiece.K_of_M hm_65)
  refine XL_run 5 [] [(1, .pointer (some ⟨w_8.heap.size, 0, none⟩)), (2, .pointer (some ⟨w_10.heap.size, 0, none⟩)), (3, .nilIface), (4, .pointer (some ⟨w_35.heap.size, 0, none⟩)), (5, .bool true), (6, .nilIface), (7, .int .i64 1), (8, .nilIface), (9, .slice A_50 2 c_51), (10, .nilIface), (11, .int .i64 1), (12, .nilIface), (13, .iface T_63 u_64), (14, .nilIface)] w_61 [] (by kernel_rfl) trivial ?_
  refine XL_nil ?_
  refine X_seq ?_
  refine X_region ?_
  refine XL_run 43 [(52, .load (.string (⟨#[97, 195, 169]⟩ : ByteArray))), (57, .load (.string (⟨#[226, 130, 172]⟩ : ByteArray))), (69, .load (.string (⟨#[97, 195, 169, 226, 130, 172]⟩ : ByteArray)))] [(1, .pointer (some ⟨w_8.heap.size, 0, none⟩)), (11, .int .i64 1), (12, .nilIface), (13, .iface T_63 u_64), (14, .nilIface), (89, .bool true), (90, .slice A_50 2 c_51)] w_61 [LoadsAs Tryd.prog 9 (⟨w_8.heap.size, 1, none⟩) (.string (⟨#[97, 195, 169]⟩ : ByteArray)) w_61, LoadsAs Tryd.prog 9 (⟨w_10.heap.size, 1, none⟩) (.string (⟨#[226, 130, 172]⟩ : ByteArray)) w_61, LoadsAs Tryd.prog 9 (⟨w_35.heap.size, 1, none⟩) (.string (⟨#[97, 195, 169, 226, 130, 172]⟩ : ByteArray)) w_61] (by kernel_rfl) ⟨loads1 rfl (Blk.cell (Blk.below hk_31 (bt hB_57 hb_62)) 1 _ rfl), loads1 rfl (Blk.cell (Blk.below hk_28 (bt hB_57 hb_62)) 1 _ rfl), loads1 rfl (Blk.cell (Blk.below hk_45 (bt (bt (bt hb_49 hb_54) hb_56) hb_62)) 1 _ rfl), trivial⟩ ?_
  obtain ⟨ad_66, B_69, c_70, ha_67, hc_68, hl_71, hC_72⟩ := Kd.atCell (Kd.R_C (Kd.R_below hr_52 (bt hb_56 hb_62))) (i := (1 : Int)) (by omega) (by omega)
  replace hc_68 : CellsAt w_61 (ad_66.add ((1 : Int).toNat * 6)) [.int .i32 ((([cellR [] 98, cellR [] 10]).getD 1 cell0).rune), .string ((([cellR [] 98, cellR [] 10]).getD 1 cell0).kind), .int .i64 ((([cellR [] 98, cellR [] 10]).getD 1 cell0).vk), .int .i64 ((([cellR [] 98, cellR [] 10]).getD 1 cell0).vn), .string ((([cellR [] 98, cellR [] 10]).getD 1 cell0).vt), .slice B_69 ((([cellR [] 98, cellR [] 10]).getD 1 cell0).attrs.length) c_70] := hc_68
  replace hl_71 : (([cellR [] 98, cellR [] 10]).getD 1 cell0).attrs.length ≤ c_70 := hl_71
  replace hC_72 : kAttr.C w_61 B_69 ((([cellR [] 98, cellR [] 10]).getD 1 cell0).attrs.length) (([cellR [] 98, cellR [] 10]).getD 1 cell0).attrs := hC_72
  refine XL_run 24 [(91, .idx ad_66), (93, .load (.int .i32 ((([cellR [] 98, cellR [] 10]).getD 1 cell0).rune))), (94, .eq (.bool true)), (113, .load (.agg #[.int .i64 1, .string (⟨#[97, 195, 169]⟩ : ByteArray), .int .i64 0, .int .i64 0, .string ByteArray.empty, .int .i64 0, .slice A_1 0 c_2])), (114, .load (.agg #[.int .i64 1, .string (⟨#[97, 195, 169]⟩ : ByteArray), .int .i64 0, .int .i64 0, .string ByteArray.empty, .int .i64 0, .slice A_1 0 c_2]))] [(112, .bool true), (113, .agg #[.int .i64 1, .string (⟨#[97, 195, 169]⟩ : ByteArray), .int .i64 0, .int .i64 0, .string ByteArray.empty, .int .i64 0, .slice A_1 0 c_2]), (114, .agg #[.int .i64 1, .string (⟨#[97, 195, 169]⟩ : ByteArray), .int .i64 0, .int .i64 0, .string ByteArray.empty, .int .i64 0, .slice A_1 0 c_2])] w_61 [A_50 = some ad_66, (0 : Int) ≤ 1, 1 < (2 : Int), LoadsAs Tryd.prog 21 (ad_66.add ((1 : Int).toNat * 6)) (.int .i32 ((([cellR [] 98, cellR [] 10]).getD 1 cell0).rune)) w_61, Value.bool ((([cellR [] 98, cellR [] 10]).getD 1 cell0).rune == 10) = Value.bool true, LoadsAs Tryd.prog 33 (⟨w_8.heap.size, 0, none⟩) (.agg #[.int .i64 1, .string (⟨#[97, 195, 169]⟩ : ByteArray), .int .i64 0, .int .i64 0, .string ByteArray.empty, .int .i64 0, .slice A_1 0 c_2]) w_61, LoadsAs Tryd.prog 33 (⟨w_8.heap.size, 0, none⟩) (.agg #[.int .i64 1, .string (⟨#[97, 195, 169]⟩ : ByteArray), .int .i64 0, .int .i64 0, .string ByteArray.empty, .int .i64 0, .slice A_1 0 c_2]) w_61] (by kernel_rfl) ⟨ha_67, (by omega), (by omega), loads1 rfl (elem_cell hc_68 0 _ rfl), congrArg Value.bool (beq_iff_eq.2 (rfl)), loadsB rfl rfl (Blk.below hk_31 (bt hB_57 hb_62)) 0 ⟨by kernel_rfl, by kernel_rfl⟩, loadsB rfl rfl (Blk.below hk_31 (bt hB_57 hb_62)) 0 ⟨by kernel_rfl, by kernel_rfl⟩, trivial⟩ ?_
  refine XL_call 63 rfl rfl rfl ent63 [.agg #[.int .i64 1, .string (⟨#[97, 195, 169]⟩ : ByteArray), .int .i64 0, .int .i64 0, .string ByteArray.empty, .int .i64 0, .slice A_1 0 c_2], .agg #[.int .i64 1, .string (⟨#[97, 195, 169]⟩ : ByteArray), .int .i64 0, .int .i64 0, .string ByteArray.empty, .int .i64 0, .slice A_1 0 c_2]] (by kernel_rfl) (csame_any (⟨1, (⟨#[97, 195, 169]⟩ : ByteArray), 0, 0, ByteArray.empty, 0, []⟩ : OpA) (⟨1, (⟨#[97, 195, 169]⟩ : ByteArray), 0, 0, ByteArray.empty, 0, []⟩ : OpA) _ _ _ _ _ ⟨rfl, by decide, fun h_ => absurd h_ (by decide)⟩ ⟨rfl, by decide, fun h_ => absurd h_ (by decide)⟩) ?_
  rintro e w_73 ⟨rfl, hb_74⟩; refine ⟨_, rfl, ?_⟩
  rw [(opEqP_iff (⟨1, (⟨#[97, 195, 169]⟩ : ByteArray), 0, 0, ByteArray.empty, 0, []⟩ : OpA) (⟨1, (⟨#[97, 195, 169]⟩ : ByteArray), 0, 0, ByteArray.empty, 0, []⟩ : OpA)).2 rfl]
  refine XL_run 2 [] [(0, .bool true)] w_73 [] (by kernel_rfl) trivial ?_
  refine XL_nil ?_
  refine X_ret ?_
  refine RX.ret_ok (P := Tryd.prog) (fn := Tryd.f45) (N := 117) (R := R_) [.bool true] (by kernel_rfl) (hR_ _ _ ?_)
  have hB_75 : Below w.heap.size w w_73 := (bt (bt (bt (bt (bt hB_47 hb_49) hb_54) hb_56) hb_62) hb_74)
  exact ⟨rfl, hB_75⟩
end Go.Proofs.YtekfdfafhfhfbaaDoor
