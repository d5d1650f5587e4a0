/- What sameRunes answers; the laws' fixed facts. Conditions: the tables of utf8, the errors' variables. -/
import Derived.Test.YtkehomiogkoomaaDoorB1
import Derived.Test.YtkehomiogkoomaaDoorNum
set_option linter.unusedVariables false
set_option linter.unusedSimpArgs false
set_option maxRecDepth 100000
namespace Go.Proofs.YtkehomiogkoomaaDoor
open Go Go.RowKit Go.Proofs.YtkehomiogkoomaaDoorW.PrintWords RX
theorem ent22 : Ent Tryd.prog 22 := ent_of Tryd.func22 (by kernel_rfl) rfl
theorem ent15 : Ent Tryd.prog 15 := ent_of Tryd.func15 (by kernel_rfl) rfl
theorem srunes_any (A A' : Option Addr) (c c' : Nat) (xs ys : List Int) (w : World) (hx : (Kd.int .i32).C w A xs.length xs) (hy : (Kd.int .i32).C w A' ys.length ys) :
    Calls Tryd.prog 22 #[.slice A xs.length c, .slice A' ys.length c'] w fun e w' => e = .returned (.bool (decide (xs = ys))) ∧ Below w.heap.size w w' := by
  have hpl : xs.length ≤ 9223372036854775807 := hx.2.1
  refine RX.enter Tryd.func22 rfl 26 rfl [(0, .slice A xs.length c), (1, .slice A' ys.length c')] rfl (by kernel_rfl) (fun R_ hR_ => ?_)
  refine X_seq ?_
  refine X_region ?_
  refine XL_run 1 [] [(0, .slice A xs.length c), (1, .slice A' ys.length c')] w [] (by kernel_rfl) trivial ?_
  refine XL_nil ?_
  refine X_seq ?_
  refine X_seq ?_
  refine X_region ?_
  refine XL_run 4 [] [(0, .slice A xs.length c), (1, .slice A' ys.length c'), (7, .int .i64 (xs.length : Int)), (9, .int .i64 (ys.length : Int))] w [] (by kernel_rfl) trivial ?_
  by_cases c_1 : (xs.length : Int) = (ys.length : Int)
  · refine XL_run 1 [(10, .eq (.bool false))] [(0, .slice A xs.length c), (1, .slice A' ys.length c'), (10, .bool false)] w [Value.bool ((xs.length : Int) != (ys.length : Int)) = Value.bool false] (by kernel_rfl) ⟨congrArg Value.bool (bneF (c_1)), trivial⟩ ?_
    refine XL_nil ?_
    refine X_cond false rfl ?_
    refine X_skip ?_
    refine X_seq ?_
    refine X_seq ?_
    refine X_region ?_
    refine XL_run 3 [] [(0, .slice A xs.length c), (1, .slice A' ys.length c'), (12, .int .i64 (xs.length : Int)), (13, .int .i64 0)] w [] (by kernel_rfl) trivial ?_
    refine XL_nil ?_
    refine X_block ?_
    refine X_loop (ι := Nat) (fun i => [(0, .slice A xs.length c), (1, .slice A' ys.length c'), (12, .int .i64 (xs.length : Int)), (13, .int .i64 (i : Int))]) (fun i wl => i ≤ xs.length ∧ xs.length = ys.length ∧ (∀ q : Nat, q < i → rd xs (q : Int) = rd ys (q : Int)) ∧ Below w.heap.size w wl) (fun i => xs.length - i) 0 ⟨by omega, by omega, fun q hq => by omega, (Below.refl _ _)⟩ (by kernel_rfl) ?_
    rintro i wl ⟨hi, hlen, hq0, HB⟩
    refine X_seq ?_
    refine X_region ?_
    by_cases c_2 : (i : Int) < (xs.length : Int)
    · refine XL_run 1 [(14, .eq (.bool true))] [(0, .slice A xs.length c), (1, .slice A' ys.length c'), (12, .int .i64 (xs.length : Int)), (13, .int .i64 (i : Int)), (14, .bool true)] wl [Value.bool (decide ((i : Int) < (xs.length : Int))) = Value.bool true] (by kernel_rfl) ⟨congrArg Value.bool (decide_eq_true (c_2)), trivial⟩ ?_
      refine XL_nil ?_
      refine X_seq ?_
      refine X_cond true rfl ?_
      refine X_skip ?_
      refine X_seq ?_
      refine X_block ?_
      refine X_seq ?_
      refine X_region ?_
      refine XL_run 2 [] [(0, .slice A xs.length c), (1, .slice A' ys.length c'), (5, .int .i64 (i : Int)), (12, .int .i64 (xs.length : Int)), (13, .int .i64 (i : Int))] wl [] (by kernel_rfl) trivial ?_
      refine XL_nil ?_
      refine X_seq ?_
      refine X_still (by kernel_rfl) (by kernel_rfl) (fun wd_3 hb_4 hh_5 => ?_)
      refine XS_run 2 [] [.slice A xs.length c, .int .i64 (i : Int)] [(0, .slice A xs.length c), (1, .slice A' ys.length c'), (5, .int .i64 (i : Int)), (12, .int .i64 (xs.length : Int)), (13, .int .i64 (i : Int)), (16, .slice A xs.length c), (17, .int .i64 (i : Int))] [] (by kernel_rfl) (by kernel_rfl) trivial ?_
      obtain ⟨ad_6, ha_7, hc_8⟩ := Kd.atI (Kd.C_below hx (bt HB hb_4)) (i := (i : Int)) (by omega) (by omega)
      refine XS_run 4 [(18, .idx ad_6), (19, .load (.int .i32 (rd xs (i : Int))))] [.pointer (some (ad_6.add ((i : Int).toNat * 1))), .int .i32 (rd xs (i : Int)), .slice A' ys.length c', .int .i64 (i : Int)] [(0, .slice A xs.length c), (1, .slice A' ys.length c'), (12, .int .i64 (xs.length : Int)), (13, .int .i64 (i : Int)), (19, .int .i32 (rd xs (i : Int))), (20, .slice A' ys.length c'), (21, .int .i64 (i : Int))] [A = some ad_6, (0 : Int) ≤ (i : Int), (i : Int) < (xs.length : Int), LoadsAs Tryd.prog 21 (ad_6.add ((i : Int).toNat * 1)) (.int .i32 (rd xs (i : Int))) wd_3] (by kernel_rfl) (by kernel_rfl) ⟨ha_7, (by omega), (by omega), loads1 rfl (elem_cell hc_8 0 _ rfl), trivial⟩ ?_
      obtain ⟨ad_9, ha_10, hc_11⟩ := Kd.atI (Kd.C_below hy (bt HB hb_4)) (i := (i : Int)) (by omega) (by omega)
      refine XS_run 2 [(22, .idx ad_9), (23, .load (.int .i32 (rd ys (i : Int))))] [.pointer (some (ad_9.add ((i : Int).toNat * 1))), .int .i32 (rd ys (i : Int))] [(0, .slice A xs.length c), (1, .slice A' ys.length c'), (12, .int .i64 (xs.length : Int)), (13, .int .i64 (i : Int)), (19, .int .i32 (rd xs (i : Int))), (23, .int .i32 (rd ys (i : Int)))] [A' = some ad_9, (0 : Int) ≤ (i : Int), (i : Int) < (ys.length : Int), LoadsAs Tryd.prog 21 (ad_9.add ((i : Int).toNat * 1)) (.int .i32 (rd ys (i : Int))) wd_3] (by kernel_rfl) (by kernel_rfl) ⟨ha_10, (by omega), (by omega), loads1 rfl (elem_cell hc_11 0 _ rfl), trivial⟩ ?_
      by_cases c_12 : rd xs (i : Int) = rd ys (i : Int)
      · refine XS_run 1 [(24, .eq (.bool false))] [.bool false] [(0, .slice A xs.length c), (1, .slice A' ys.length c'), (12, .int .i64 (xs.length : Int)), (13, .int .i64 (i : Int)), (24, .bool false)] [Value.bool (rd xs (i : Int) != rd ys (i : Int)) = Value.bool false] (by kernel_rfl) (by kernel_rfl) ⟨congrArg Value.bool (bneF (c_12)), trivial⟩ ?_
        refine XS_nil ?_
        refine X_cond false rfl ?_
        refine X_skip ?_
        refine X_region ?_
        refine XL_run 2 [(25, .eq (.int .i64 ((i : Int) + 1)))] [(0, .slice A xs.length c), (1, .slice A' ys.length c'), (12, .int .i64 (xs.length : Int)), (13, .int .i64 ((i : Int) + 1))] wd_3 [Value.int .i64 (IntKind.i64.wrap ((i : Int) + 1)) = Value.int .i64 ((i : Int) + 1)] (by kernel_rfl) ⟨wr_i64 (by omega) (by omega), trivial⟩ ?_
        refine XL_nil ?_
        refine ⟨(i + 1), by kernel_rfl, ?_, ?_⟩
        · exact ⟨by omega, by omega, fun q hq => by by_cases e : q = i; (· subst e; exact c_12); (· exact hq0 q (by omega)), (bt HB hb_4)⟩
        · (try dsimp only); omega
      · refine XS_run 1 [(24, .eq (.bool true))] [.bool true] [(0, .slice A xs.length c), (1, .slice A' ys.length c'), (12, .int .i64 (xs.length : Int)), (13, .int .i64 (i : Int)), (24, .bool true)] [Value.bool (rd xs (i : Int) != rd ys (i : Int)) = Value.bool true] (by kernel_rfl) (by kernel_rfl) ⟨congrArg Value.bool (bneT (c_12)), trivial⟩ ?_
        refine XS_nil ?_
        refine X_cond true rfl ?_
        refine X_seq ?_
        refine X_region ?_
        refine XL_run 1 [] [(4, .bool false)] wd_3 [] (by kernel_rfl) trivial ?_
        refine XL_nil ?_
        refine X_ret ?_
        refine RX.ret_ok (P := Tryd.prog) (fn := Tryd.f22) (N := 26) (R := R_) [.bool false] (by kernel_rfl) (hR_ _ _ ?_)
        rw [decide_eq_false (fun e => c_12 (by rw [e]))]
        exact ⟨rfl, (bt HB hb_4)⟩
    · refine XL_run 1 [(14, .eq (.bool false))] [(0, .slice A xs.length c), (1, .slice A' ys.length c'), (12, .int .i64 (xs.length : Int)), (13, .int .i64 (i : Int)), (14, .bool false)] wl [Value.bool (decide ((i : Int) < (xs.length : Int))) = Value.bool false] (by kernel_rfl) ⟨congrArg Value.bool (decide_eq_false (c_2)), trivial⟩ ?_
      refine XL_nil ?_
      refine X_seq ?_
      refine X_cond false rfl ?_
      refine X_exit ?_
      refine X_seq ?_
      refine X_region ?_
      refine XL_run 1 [] [(4, .bool true)] wl [] (by kernel_rfl) trivial ?_
      refine XL_nil ?_
      refine X_ret ?_
      refine RX.ret_ok (P := Tryd.prog) (fn := Tryd.f22) (N := 26) (R := R_) [.bool true] (by kernel_rfl) (hR_ _ _ ?_)
      rw [decide_eq_true (show xs = ys from List.ext_getElem hlen fun q h1 h2 => by have := hq0 q (by omega); unfold rd at this; simpa [List.getD_eq_getElem?_getD, List.getElem?_eq_getElem h1, List.getElem?_eq_getElem h2] using this)]
      exact ⟨rfl, HB⟩
  · refine XL_run 1 [(10, .eq (.bool true))] [(0, .slice A xs.length c), (1, .slice A' ys.length c'), (10, .bool true)] w [Value.bool ((xs.length : Int) != (ys.length : Int)) = Value.bool true] (by kernel_rfl) ⟨congrArg Value.bool (bneT (c_1)), trivial⟩ ?_
    refine XL_nil ?_
    refine X_cond true rfl ?_
    refine X_seq ?_
    refine X_region ?_
    refine XL_run 1 [] [(4, .bool false)] w [] (by kernel_rfl) trivial ?_
    refine XL_nil ?_
    refine X_ret ?_
    refine RX.ret_ok (P := Tryd.prog) (fn := Tryd.f22) (N := 26) (R := R_) [.bool false] (by kernel_rfl) (hR_ _ _ ?_)
    rw [decide_eq_false (show ¬ xs = ys from fun e => by subst e; omega)]
    exact ⟨rfl, (Below.refl _ _)⟩
theorem lv1 : U.utf (⟨#[97, 195, 169, 226, 130, 172]⟩ : ByteArray) ∧ U.sc (⟨#[97, 195, 169, 226, 130, 172]⟩ : ByteArray) = [97, 233, 8364] := U.utf_of (by decide) (by decide +kernel)
theorem lv2 : U.utf (⟨#[195, 169]⟩ : ByteArray) ∧ U.sc (⟨#[195, 169]⟩ : ByteArray) = [233] := U.utf_of (by decide) (by decide +kernel)
theorem lvlen : U.lenP (⟨#[97, 195, 169, 226, 130, 172]⟩ : ByteArray) = (3, 0) := by unfold U.lenP; rw [if_pos (show U.tl _ = [] from lv1.1), lv1.2]; rfl
theorem lvat : U.atP (⟨#[97, 195, 169, 226, 130, 172]⟩ : ByteArray) 2 = (3, 0) := by
  unfold U.atP
  rw [if_pos (show U.tl _ = [] from lv1.1), lv1.2, if_neg (by decide), if_pos (by decide)]
  unfold U.pl
  rw [lv1.2]
  decide +kernel
theorem lvcut : U.cutP (⟨#[97, 195, 169, 226, 130, 172]⟩ : ByteArray) 2 = ((⟨#[97, 195, 169]⟩ : ByteArray), (⟨#[226, 130, 172]⟩ : ByteArray), 0) := by
  unfold U.cutP
  rw [lvat]
  decide +kernel
theorem lvlist : U.listP (⟨#[195, 169]⟩ : ByteArray) = ([233], 0) := by unfold U.listP; rw [if_pos (show U.tl _ = [] from lv2.1), lv2.2]; rfl
theorem lvchk : uchk (⟨#[97, 195]⟩ : ByteArray) = (1, false) := by decide +kernel
theorem lvtext : U.textP [128512] = ((⟨#[240, 159, 152, 128]⟩ : ByteArray), 0) := by decide +kernel
theorem lvpair : U.pairP 55357 56832 = (128512, 0) := by decide +kernel
theorem lvwidth : U.widthP 233 = 2 := by decide +kernel
set_option maxHeartbeats 1000000 in
theorem lives_any (w : World) (hT : Tabs w) (es : List Addr) (hE : Errs w es) : Calls Tryd.prog 15 #[] w fun e w' => e = .returned (.bool true) ∧ Below w.heap.size w w' := by
  have hA : ErrsA w es := hE.on (by decide)
  have hR : ErrsOn [1, 12] w es := hE.on (by decide)
  refine RX.enter Tryd.func15 rfl 96 rfl [] rfl (by kernel_rfl) (fun R_ hR_ => ?_)
  refine X_seq ?_
  refine X_region ?_
  refine XL_run 1 [] [] w [] (by kernel_rfl) trivial ?_
  refine XL_nil ?_
  refine X_seq ?_
  refine X_region ?_
  refine XL_call 21 rfl rfl rfl ent21 [.string (⟨#[97, 195, 169, 226, 130, 172]⟩ : ByteArray)] (by kernel_rfl) (len_any (⟨#[97, 195, 169, 226, 130, 172]⟩ : ByteArray) _ (by decide) (hT.below (Below.refl _ _)) es (hA.below (Below.refl _ _))) ?_
  rintro e w_1 ⟨rfl, hb_2⟩; refine ⟨_, rfl, ?_⟩
  rw [lvlen]
  refine XL_run 5 [] [(1, .int .i64 ((3 : Nat) : Int)), (2, .nilIface)] w_1 [] (by kernel_rfl) trivial ?_
  refine XL_nil ?_
  refine X_seq ?_
  refine X_region ?_
  refine XL_call 83 rfl rfl rfl ent83 [.string (⟨#[97, 195, 169, 226, 130, 172]⟩ : ByteArray), .int .i64 2] (by kernel_rfl) (cut_any (⟨#[97, 195, 169, 226, 130, 172]⟩ : ByteArray) 2 _ (by decide) (by decide) (by decide) (hT.below hb_2) es (hR.below hb_2)) ?_
  rintro e w_3 ⟨rfl, hb_4⟩; refine ⟨_, rfl, ?_⟩
  rw [lvcut]
  refine XL_run 7 [] [(1, .int .i64 ((3 : Nat) : Int)), (2, .nilIface), (3, .string (⟨#[97, 195, 169]⟩ : ByteArray)), (4, .string (⟨#[226, 130, 172]⟩ : ByteArray)), (5, .nilIface)] w_3 [] (by kernel_rfl) trivial ?_
  refine XL_nil ?_
  refine X_seq ?_
  refine X_region ?_
  refine XL_call 20 rfl rfl rfl ent20 [.string (⟨#[195, 169]⟩ : ByteArray)] (by kernel_rfl) (slist_any (⟨#[195, 169]⟩ : ByteArray) _ (by decide) (hT.below (bt hb_2 hb_4)) es (hA.below (bt hb_2 hb_4))) ?_
  rintro e w_9 ⟨A_5, c_6, rfl, hl_7, hr_8, hb_10⟩; refine ⟨_, rfl, ?_⟩
  rw [lvlist] at hl_7 hr_8 ⊢
  refine XL_run 5 [] [(1, .int .i64 ((3 : Nat) : Int)), (2, .nilIface), (3, .string (⟨#[97, 195, 169]⟩ : ByteArray)), (4, .string (⟨#[226, 130, 172]⟩ : ByteArray)), (5, .nilIface), (6, .slice A_5 ([(233 : Int)].length) c_6), (7, .nilIface)] w_9 [] (by kernel_rfl) trivial ?_
  refine XL_nil ?_
  refine X_seq ?_
  refine X_region ?_
  refine XL_call 16 rfl rfl rfl ent16 [.string (⟨#[97, 195]⟩ : ByteArray)] (by kernel_rfl) (scheck_any (⟨#[97, 195]⟩ : ByteArray) _ (by decide) (hT.below (bt (bt hb_2 hb_4) hb_10)) es (hA.below (bt (bt hb_2 hb_4) hb_10))) ?_
  rintro e w_11 ⟨rfl, hb_12⟩; refine ⟨_, rfl, ?_⟩
  rw [lvchk]
  rw [show errV es (if (((1 : Nat), false) : Nat × Bool).2 = true then 0 else 1) = errV es 1 from rfl, errV_pos es 1 (by decide)]
  refine XL_run 5 [] [(1, .int .i64 ((3 : Nat) : Int)), (2, .nilIface), (3, .string (⟨#[97, 195, 169]⟩ : ByteArray)), (4, .string (⟨#[226, 130, 172]⟩ : ByteArray)), (5, .nilIface), (6, .slice A_5 ([(233 : Int)].length) c_6), (7, .nilIface), (8, .int .i64 ((1 : Nat) : Int)), (9, .iface 235 (.pointer (some (errAt es 1))))] w_11 [] (by kernel_rfl) trivial ?_
  refine XL_nil ?_
  refine X_seq ?_
  refine X_region ?_
  refine XL_run 1 [] [(1, .int .i64 ((3 : Nat) : Int)), (2, .nilIface), (3, .string (⟨#[97, 195, 169]⟩ : ByteArray)), (4, .string (⟨#[226, 130, 172]⟩ : ByteArray)), (5, .nilIface), (6, .slice A_5 ([(233 : Int)].length) c_6), (7, .nilIface), (8, .int .i64 ((1 : Nat) : Int)), (9, .iface 235 (.pointer (some (errAt es 1)))), (32, .slice (some ⟨w_11.heap.size, 0, none⟩) 1 1)] (w_11.alloc (.cells #[.int .i32 128512] 21)) [] (by kernel_rfl) trivial ?_
  obtain ⟨w_13, hw_17, hb_14, hk_15, hz_16⟩ := new_world w_11 #[.int .i32 128512] 21
  rw [hw_17]
  have hr_18 := Kd.R_litB (Kd.int .i32) (W := w_11) (e := 21) (cs := #[.int .i32 128512]) [128512] hk_15 (repsInt [128512]) (Nat.le_of_ble_eq_true (by kernel_rfl))
  have hB_19 : Below w.heap.size w w_13 := (bt (bt (bt (bt hb_2 hb_4) hb_10) hb_12) hb_14)
  refine XL_call 84 rfl rfl rfl ent84 [.slice (some ⟨w_11.heap.size, 0, none⟩) 1 1] (by kernel_rfl) (text_any (some ⟨w_11.heap.size, 0, none⟩) 1 [128512] _ (Kd.R_C hr_18) es (hA.below hB_19)) ?_
  rintro e w_20 ⟨rfl, hb_21⟩; refine ⟨_, rfl, ?_⟩
  rw [lvtext]
  refine XL_run 5 [] [(1, .int .i64 ((3 : Nat) : Int)), (2, .nilIface), (3, .string (⟨#[97, 195, 169]⟩ : ByteArray)), (4, .string (⟨#[226, 130, 172]⟩ : ByteArray)), (5, .nilIface), (6, .slice A_5 ([(233 : Int)].length) c_6), (7, .nilIface), (8, .int .i64 ((1 : Nat) : Int)), (9, .iface 235 (.pointer (some (errAt es 1)))), (10, .string (⟨#[240, 159, 152, 128]⟩ : ByteArray)), (11, .nilIface)] w_20 [] (by kernel_rfl) trivial ?_
  refine XL_nil ?_
  refine X_seq ?_
  refine X_region ?_
  refine XL_call 85 rfl rfl rfl ent85 [.int .i32 55357, .int .i32 56832] (by kernel_rfl) (spair_any 55357 56832 _ es (hA.below (bt hB_19 hb_21))) ?_
  rintro e w_22 ⟨rfl, hb_23⟩; refine ⟨_, rfl, ?_⟩
  rw [lvpair]
  refine XL_run 5 [] [(1, .int .i64 ((3 : Nat) : Int)), (2, .nilIface), (3, .string (⟨#[97, 195, 169]⟩ : ByteArray)), (4, .string (⟨#[226, 130, 172]⟩ : ByteArray)), (5, .nilIface), (6, .slice A_5 ([(233 : Int)].length) c_6), (7, .nilIface), (8, .int .i64 ((1 : Nat) : Int)), (9, .iface 235 (.pointer (some (errAt es 1)))), (10, .string (⟨#[240, 159, 152, 128]⟩ : ByteArray)), (11, .nilIface), (12, .int .i32 128512), (13, .nilIface)] w_22 [] (by kernel_rfl) trivial ?_
  refine XL_nil ?_
  refine X_seq ?_
  refine X_region ?_
  refine XL_run 21 [(41, .eq (.bool true))] [(7, .nilIface), (8, .int .i64 ((1 : Nat) : Int)), (9, .iface 235 (.pointer (some (errAt es 1)))), (10, .string (⟨#[240, 159, 152, 128]⟩ : ByteArray)), (11, .nilIface), (12, .int .i32 128512), (13, .nilIface), (58, .bool true), (59, .slice A_5 ([(233 : Int)].length) c_6), (60, .slice (some ⟨w_22.heap.size, 0, none⟩) 1 1)] (w_22.alloc (.cells #[.int .i32 233] 21)) [Value.bool (((3 : Nat) : Int) == 3) = Value.bool true] (by kernel_rfl) ⟨congrArg Value.bool (beq_iff_eq.2 (rfl)), trivial⟩ ?_
  obtain ⟨w_24, hw_28, hb_25, hk_26, hz_27⟩ := new_world w_22 #[.int .i32 233] 21
  rw [hw_28]
  have hB_29 : Below w_9.heap.size w_9 w_24 := (bt (bt (bt (bt hb_12 hb_14) hb_21) hb_23) hb_25)
  have hr_30 := Kd.R_litB (Kd.int .i32) (W := w_22) (e := 21) (cs := #[.int .i32 233]) [233] hk_26 (repsInt [233]) (Nat.le_of_ble_eq_true (by kernel_rfl))
  refine XL_call 22 rfl rfl rfl ent22 [.slice A_5 ([(233 : Int)].length) c_6, .slice (some ⟨w_22.heap.size, 0, none⟩) 1 1] (by kernel_rfl) (srunes_any _ _ _ _ [(233 : Int)] [233] _ (Kd.R_C (Kd.R_below hr_8 hB_29)) (Kd.R_C hr_30)) ?_
  rintro e w_31 ⟨rfl, hb_32⟩; refine ⟨_, rfl, ?_⟩
  rw [decide_eq_true (show [(233 : Int)] = [233] from rfl)]
  refine XL_run 11 [(69, .eq (.bool true))] [(10, .string (⟨#[240, 159, 152, 128]⟩ : ByteArray)), (11, .nilIface), (12, .int .i32 128512), (13, .nilIface), (71, .bool true), (72, .iface 235 (.pointer (some (errAt es 1))))] w_31 [Value.bool (((1 : Nat) : Int) == 1) = Value.bool true] (by kernel_rfl) ⟨congrArg Value.bool (beq_iff_eq.2 (rfl)), trivial⟩ ?_
  have hB_33 : Below w.heap.size w w_31 := (bt (bt (bt (bt hB_19 hb_21) hb_23) hb_25) hb_32)
  refine XL_call 18 rfl rfl rfl ent18 [.iface 235 (.pointer (some (errAt es 1)))] (by kernel_rfl) (num_err es 1 (by decide) (by decide) _ (hE.below hB_33)) ?_
  rintro e w_34 ⟨rfl, hb_35⟩; refine ⟨_, rfl, ?_⟩
  refine XL_run 19 [(74, .eq (.bool true))] [(92, .bool true)] w_34 [Value.bool (((1 : Nat) : Int) == 1) = Value.bool true] (by kernel_rfl) ⟨congrArg Value.bool (beq_iff_eq.2 (rfl)), trivial⟩ ?_
  refine XL_call 86 rfl rfl rfl ent86 [.int .i32 233] (by kernel_rfl) (width_any 233 _) ?_
  rintro e w_36 ⟨rfl, hb_37⟩; refine ⟨_, rfl, ?_⟩
  rw [lvwidth]
  refine XL_run 3 [(94, .eq (.bool true))] [(0, .bool true)] w_36 [Value.bool (((2 : Nat) : Int) == 2) = Value.bool true] (by kernel_rfl) ⟨congrArg Value.bool (beq_iff_eq.2 (rfl)), trivial⟩ ?_
  refine XL_nil ?_
  refine X_ret ?_
  refine RX.ret_ok (P := Tryd.prog) (fn := Tryd.f15) (N := 96) (R := R_) [.bool true] (by kernel_rfl) (hR_ _ _ ?_)
  exact ⟨rfl, (bt (bt hB_33 hb_35) hb_37)⟩
end Go.Proofs.YtkehomiogkoomaaDoor
