/- ScalarsPairs returns true. Conditions: the tables of utf8, the errors' variables. -/
import Derived.Test.YtlnfgkafnpbeeaaDoorB2
set_option linter.unusedVariables false
set_option linter.unusedSimpArgs false
set_option maxRecDepth 100000
namespace Go.Proofs.YtlnfgkafnpbeeaaDoor
open Go Go.RowKit Go.Proofs.YtlnfgkafnpbeeaaDoorW.PrintWords RX
theorem width4 {x : Int} (h0 : 65536 ≤ x) (h1 : x ≤ 1114111) : U.widthP x = 4 := by
  obtain ⟨k, rfl⟩ := Int.eq_ofNat_of_zero_le (show 0 ≤ x by omega)
  have hv : U.vr k := by unfold U.vr; omega
  rw [widthP_pos hv, U.enc_4 hv (by omega)]
  rfl
theorem pair_ok {h l : Int} (h0 : 55296 ≤ h) (h1 : h < 56320) (l0 : 56320 ≤ l) (l1 : l ≤ 57343) : U.pairP h l = (65536 + (h - 55296) * 1024 + (l - 56320), 0) := if_neg (by omega)
theorem pair_bad {h l : Int} (hh : ¬ h < 56320) : U.pairP h l = (0, 1) := if_pos (by omega)
set_option maxHeartbeats 2000000 in
theorem spairs_any (a b c d : Int) (w : World) (ha0 : 0 ≤ a) (ha1 : a ≤ 65535) (hb0 : 0 ≤ b) (hb1 : b ≤ 65535) (hc0 : 0 ≤ c) (hc1 : c ≤ 65535) (hd0 : 0 ≤ d) (hd1 : d ≤ 65535) (hT : Tabs w) (es : List Addr) (hE : Errs w es) :
    Calls Tryd.prog 6 #[.int .u16 a, .int .u16 b, .int .u16 c, .int .u16 d] w fun e w' => e = .returned (.bool true) ∧ Below w.heap.size w w' := by
  have hA : ErrsA w es := hE.on (by decide)
  have ma := Int.tmod_eq_emod_of_nonneg (b := 1024) ha0
  have mb := Int.tmod_eq_emod_of_nonneg (b := 1024) hb0
  have mc := Int.tmod_eq_emod_of_nonneg (b := 1024) hc0
  have md := Int.tmod_eq_emod_of_nonneg (b := 1024) hd0
  refine RX.enter Tryd.func6 rfl 97 rfl [(0, .int .u16 a), (1, .int .u16 b), (2, .int .u16 c), (3, .int .u16 d)] rfl (by kernel_rfl) (fun R_ hR_ => ?_)
  refine X_seq ?_
  refine X_region ?_
  refine XL_run 1 [] [(0, .int .u16 a), (1, .int .u16 b), (2, .int .u16 c), (3, .int .u16 d)] w [] (by kernel_rfl) trivial ?_
  refine XL_nil ?_
  refine X_seq ?_
  refine X_seq ?_
  refine X_region ?_
  refine XL_call 11 rfl rfl rfl ent11 [] (by kernel_rfl) (lives_any _ (hT.below (Below.refl _ _)) es (hE.below (Below.refl _ _))) ?_
  rintro e w_1 ⟨rfl, hb_2⟩; refine ⟨_, rfl, ?_⟩
  refine XL_run 1 [] [(0, .int .u16 a), (1, .int .u16 b), (2, .int .u16 c), (3, .int .u16 d), (20, .bool false)] w_1 [] (by kernel_rfl) trivial ?_
  refine XL_nil ?_
  refine X_cond false rfl ?_
  refine X_skip ?_
  refine X_seq ?_
  refine X_region ?_
  refine XL_run 12 [(22, .eq (.int .i64 a)), (24, .eq (.int .i64 (55296 + (Int.tmod a 1024)))), (25, .eq (.int .i32 (55296 + (Int.tmod a 1024)))), (27, .eq (.int .i64 b)), (29, .eq (.int .i64 (56320 + (Int.tmod b 1024)))), (30, .eq (.int .i32 (56320 + (Int.tmod b 1024))))] [(2, .int .u16 c), (3, .int .u16 d), (9, .int .i32 (55296 + (Int.tmod a 1024))), (10, .int .i32 (56320 + (Int.tmod b 1024)))] w_1 [Value.int .i64 (IntKind.i64.wrap (a)) = Value.int .i64 a, Value.int .i64 (IntKind.i64.wrap (55296 + (Int.tmod a 1024))) = Value.int .i64 (55296 + (Int.tmod a 1024)), Value.int .i32 (IntKind.i32.wrap (55296 + (Int.tmod a 1024))) = Value.int .i32 (55296 + (Int.tmod a 1024)), Value.int .i64 (IntKind.i64.wrap (b)) = Value.int .i64 b, Value.int .i64 (IntKind.i64.wrap (56320 + (Int.tmod b 1024))) = Value.int .i64 (56320 + (Int.tmod b 1024)), Value.int .i32 (IntKind.i32.wrap (56320 + (Int.tmod b 1024))) = Value.int .i32 (56320 + (Int.tmod b 1024))] (by kernel_rfl) ⟨wr_i64 (by omega) (by omega), wr_i64 (by omega) (by omega), wr_i32 (by omega) (by omega), wr_i64 (by omega) (by omega), wr_i64 (by omega) (by omega), wr_i32 (by omega) (by omega), trivial⟩ ?_
  refine XL_nil ?_
  refine X_seq ?_
  refine X_region ?_
  refine XL_run 12 [(32, .eq (.int .i64 c)), (34, .eq (.int .i64 (55296 + (Int.tmod c 1024)))), (35, .eq (.int .i32 (55296 + (Int.tmod c 1024)))), (37, .eq (.int .i64 d)), (39, .eq (.int .i64 (56320 + (Int.tmod d 1024)))), (40, .eq (.int .i32 (56320 + (Int.tmod d 1024))))] [(9, .int .i32 (55296 + (Int.tmod a 1024))), (10, .int .i32 (56320 + (Int.tmod b 1024))), (11, .int .i32 (55296 + (Int.tmod c 1024))), (12, .int .i32 (56320 + (Int.tmod d 1024)))] w_1 [Value.int .i64 (IntKind.i64.wrap (c)) = Value.int .i64 c, Value.int .i64 (IntKind.i64.wrap (55296 + (Int.tmod c 1024))) = Value.int .i64 (55296 + (Int.tmod c 1024)), Value.int .i32 (IntKind.i32.wrap (55296 + (Int.tmod c 1024))) = Value.int .i32 (55296 + (Int.tmod c 1024)), Value.int .i64 (IntKind.i64.wrap (d)) = Value.int .i64 d, Value.int .i64 (IntKind.i64.wrap (56320 + (Int.tmod d 1024))) = Value.int .i64 (56320 + (Int.tmod d 1024)), Value.int .i32 (IntKind.i32.wrap (56320 + (Int.tmod d 1024))) = Value.int .i32 (56320 + (Int.tmod d 1024))] (by kernel_rfl) ⟨wr_i64 (by omega) (by omega), wr_i64 (by omega) (by omega), wr_i32 (by omega) (by omega), wr_i64 (by omega) (by omega), wr_i64 (by omega) (by omega), wr_i32 (by omega) (by omega), trivial⟩ ?_
  refine XL_nil ?_
  refine X_seq ?_
  refine X_region ?_
  refine XL_run 2 [] [(9, .int .i32 (55296 + (Int.tmod a 1024))), (10, .int .i32 (56320 + (Int.tmod b 1024))), (11, .int .i32 (55296 + (Int.tmod c 1024))), (12, .int .i32 (56320 + (Int.tmod d 1024))), (42, .int .i32 (55296 + (Int.tmod a 1024))), (43, .int .i32 (56320 + (Int.tmod b 1024)))] w_1 [] (by kernel_rfl) trivial ?_
  refine XL_call 19 rfl rfl rfl ent19 [.int .i32 (55296 + (Int.tmod a 1024)), .int .i32 (56320 + (Int.tmod b 1024))] (by kernel_rfl) (spair_any (55296 + (Int.tmod a 1024)) (56320 + (Int.tmod b 1024)) _ es (hA.below hb_2)) ?_
  rintro e w_3 ⟨rfl, hb_4⟩; refine ⟨_, rfl, ?_⟩
  rw [pair_ok (h := (55296 + (Int.tmod a 1024))) (l := (56320 + (Int.tmod b 1024))) (by omega) (by omega) (by omega) (by omega)]
  obtain ⟨z_5, ez_6⟩ : ∃ z_, 65536 + ((55296 + (Int.tmod a 1024)) - 55296) * 1024 + ((56320 + (Int.tmod b 1024)) - 56320) = z_ := ⟨_, rfl⟩
  rw [ez_6]
  refine XL_run 5 [] [(9, .int .i32 (55296 + (Int.tmod a 1024))), (10, .int .i32 (56320 + (Int.tmod b 1024))), (11, .int .i32 (55296 + (Int.tmod c 1024))), (12, .int .i32 (56320 + (Int.tmod d 1024))), (13, .int .i32 z_5), (14, .nilIface)] w_3 [] (by kernel_rfl) trivial ?_
  refine XL_nil ?_
  refine X_seq ?_
  refine X_region ?_
  refine XL_run 2 [] [(9, .int .i32 (55296 + (Int.tmod a 1024))), (10, .int .i32 (56320 + (Int.tmod b 1024))), (11, .int .i32 (55296 + (Int.tmod c 1024))), (12, .int .i32 (56320 + (Int.tmod d 1024))), (13, .int .i32 z_5), (14, .nilIface), (48, .int .i32 (55296 + (Int.tmod c 1024))), (49, .int .i32 (56320 + (Int.tmod d 1024)))] w_3 [] (by kernel_rfl) trivial ?_
  refine XL_call 19 rfl rfl rfl ent19 [.int .i32 (55296 + (Int.tmod c 1024)), .int .i32 (56320 + (Int.tmod d 1024))] (by kernel_rfl) (spair_any (55296 + (Int.tmod c 1024)) (56320 + (Int.tmod d 1024)) _ es (hA.below (bt hb_2 hb_4))) ?_
  rintro e w_7 ⟨rfl, hb_8⟩; refine ⟨_, rfl, ?_⟩
  rw [pair_ok (h := (55296 + (Int.tmod c 1024))) (l := (56320 + (Int.tmod d 1024))) (by omega) (by omega) (by omega) (by omega)]
  obtain ⟨z_9, ez_10⟩ : ∃ z_, 65536 + ((55296 + (Int.tmod c 1024)) - 55296) * 1024 + ((56320 + (Int.tmod d 1024)) - 56320) = z_ := ⟨_, rfl⟩
  rw [ez_10]
  refine XL_run 5 [] [(9, .int .i32 (55296 + (Int.tmod a 1024))), (10, .int .i32 (56320 + (Int.tmod b 1024))), (11, .int .i32 (55296 + (Int.tmod c 1024))), (12, .int .i32 (56320 + (Int.tmod d 1024))), (13, .int .i32 z_5), (14, .nilIface), (15, .int .i32 z_9), (16, .nilIface)] w_7 [] (by kernel_rfl) trivial ?_
  refine XL_nil ?_
  refine X_seq ?_
  refine X_region ?_
  refine XL_run 2 [] [(9, .int .i32 (55296 + (Int.tmod a 1024))), (10, .int .i32 (56320 + (Int.tmod b 1024))), (11, .int .i32 (55296 + (Int.tmod c 1024))), (12, .int .i32 (56320 + (Int.tmod d 1024))), (13, .int .i32 z_5), (14, .nilIface), (15, .int .i32 z_9), (16, .nilIface), (54, .int .i32 (56320 + (Int.tmod b 1024))), (55, .int .i32 (55296 + (Int.tmod a 1024)))] w_7 [] (by kernel_rfl) trivial ?_
  refine XL_call 19 rfl rfl rfl ent19 [.int .i32 (56320 + (Int.tmod b 1024)), .int .i32 (55296 + (Int.tmod a 1024))] (by kernel_rfl) (spair_any (56320 + (Int.tmod b 1024)) (55296 + (Int.tmod a 1024)) _ es (hA.below (bt (bt hb_2 hb_4) hb_8))) ?_
  rintro e w_11 ⟨rfl, hb_12⟩; refine ⟨_, rfl, ?_⟩
  rw [pair_bad (h := (56320 + (Int.tmod b 1024))) (l := (55296 + (Int.tmod a 1024))) (by omega), errV_pos es 1 (by decide)]
  refine XL_run 5 [] [(9, .int .i32 (55296 + (Int.tmod a 1024))), (10, .int .i32 (56320 + (Int.tmod b 1024))), (11, .int .i32 (55296 + (Int.tmod c 1024))), (12, .int .i32 (56320 + (Int.tmod d 1024))), (13, .int .i32 z_5), (14, .nilIface), (15, .int .i32 z_9), (16, .nilIface), (18, .iface 80 (.pointer (some (errAt es 1))))] w_11 [] (by kernel_rfl) trivial ?_
  refine XL_nil ?_
  refine X_seq ?_
  refine X_region ?_
  refine XL_run 8 [] [(9, .int .i32 (55296 + (Int.tmod a 1024))), (10, .int .i32 (56320 + (Int.tmod b 1024))), (11, .int .i32 (55296 + (Int.tmod c 1024))), (12, .int .i32 (56320 + (Int.tmod d 1024))), (13, .int .i32 z_5), (15, .int .i32 z_9), (65, .bool true), (66, .iface 80 (.pointer (some (errAt es 1))))] w_11 [] (by kernel_rfl) trivial ?_
  refine XL_call 18 rfl rfl rfl ent18 [.iface 80 (.pointer (some (errAt es 1)))] (by kernel_rfl) (num_err es 1 (by decide) (by decide) _ (hE.below (bt (bt (bt hb_2 hb_4) hb_8) hb_12))) ?_
  rintro e w_13 ⟨rfl, hb_14⟩; refine ⟨_, rfl, ?_⟩
  refine XL_run 5 [(68, .eq (.bool true))] [(9, .int .i32 (55296 + (Int.tmod a 1024))), (10, .int .i32 (56320 + (Int.tmod b 1024))), (11, .int .i32 (55296 + (Int.tmod c 1024))), (12, .int .i32 (56320 + (Int.tmod d 1024))), (13, .int .i32 z_5), (70, .bool true), (71, .int .i32 z_5), (72, .int .i32 z_9)] w_13 [Value.bool (((1 : Nat) : Int) == 1) = Value.bool true] (by kernel_rfl) ⟨congrArg Value.bool (beq_iff_eq.2 (rfl)), trivial⟩ ?_
  by_cases c_15 : z_5 = z_9
  · refine XL_run 3 [(73, .eq (.bool true))] [(10, .int .i32 (56320 + (Int.tmod b 1024))), (12, .int .i32 (56320 + (Int.tmod d 1024))), (13, .int .i32 z_5), (70, .bool true), (73, .bool true), (74, .int .i32 (55296 + (Int.tmod a 1024))), (75, .int .i32 (55296 + (Int.tmod c 1024)))] w_13 [Value.bool (z_5 == z_9) = Value.bool true] (by kernel_rfl) ⟨congrArg Value.bool (beq_iff_eq.2 (c_15)), trivial⟩ ?_
    by_cases c_16 : 55296 + (Int.tmod a 1024) = 55296 + (Int.tmod c 1024)
    · refine XL_run 4 [(76, .eq (.bool true))] [(13, .int .i32 z_5), (70, .bool true), (73, .bool true), (77, .bool true), (78, .int .i32 (56320 + (Int.tmod b 1024))), (79, .int .i32 (56320 + (Int.tmod d 1024)))] w_13 [Value.bool (55296 + (Int.tmod a 1024) == 55296 + (Int.tmod c 1024)) = Value.bool true] (by kernel_rfl) ⟨congrArg Value.bool (beq_iff_eq.2 (c_16)), trivial⟩ ?_
      by_cases c_17 : 56320 + (Int.tmod b 1024) = 56320 + (Int.tmod d 1024)
      · refine XL_run 6 [(80, .eq (.bool true))] [(13, .int .i32 z_5), (84, .bool true), (85, .int .i32 z_5)] w_13 [Value.bool (56320 + (Int.tmod b 1024) == 56320 + (Int.tmod d 1024)) = Value.bool true] (by kernel_rfl) ⟨congrArg Value.bool (beq_iff_eq.2 (c_17)), trivial⟩ ?_
        refine XL_call 14 rfl rfl rfl ent14 [.int .i32 z_5] (by kernel_rfl) (width_any z_5 _) ?_
        rintro e w_18 ⟨rfl, hb_19⟩; refine ⟨_, rfl, ?_⟩
        rw [width4 (by omega) (by omega)]
        refine XL_run 4 [(87, .eq (.bool true))] [(13, .int .i32 z_5), (89, .bool true), (90, .int .i32 z_5)] w_18 [Value.bool (((4 : Nat) : Int) == 4) = Value.bool true] (by kernel_rfl) ⟨congrArg Value.bool (beq_iff_eq.2 (rfl)), trivial⟩ ?_
        by_cases c_20 : z_5 ≥ 65536
        · refine XL_run 4 [(91, .eq (.bool true))] [(93, .bool true), (94, .int .i32 z_5)] w_18 [Value.bool (decide (z_5 ≥ 65536)) = Value.bool true] (by kernel_rfl) ⟨congrArg Value.bool (decide_eq_true (c_20)), trivial⟩ ?_
          by_cases c_21 : z_5 ≤ 1114111
          · refine XL_run 3 [(95, .eq (.bool true))] [(8, .bool true)] w_18 [Value.bool (decide (z_5 ≤ 1114111)) = Value.bool true] (by kernel_rfl) ⟨congrArg Value.bool (decide_eq_true (c_21)), trivial⟩ ?_
            refine XL_nil ?_
            refine X_ret ?_
            refine RX.ret_ok (P := Tryd.prog) (fn := Tryd.f6) (N := 97) (R := R_) [.bool true] (by kernel_rfl) (hR_ _ _ ?_)
            have hB_22 : Below w.heap.size w w_18 := (bt (bt (bt (bt (bt hb_2 hb_4) hb_8) hb_12) hb_14) hb_19)
            exact ⟨rfl, hB_22⟩
          · exfalso; omega
        · exfalso; omega
      · refine XL_run 18 [(80, .eq (.bool false))] [(8, .bool false)] w_13 [Value.bool (56320 + (Int.tmod b 1024) == 56320 + (Int.tmod d 1024)) = Value.bool false] (by kernel_rfl) ⟨congrArg Value.bool (beq_eq_false_iff_ne.2 (c_17)), trivial⟩ ?_
        refine XL_nil ?_
        refine X_ret ?_
        refine RX.ret_ok (P := Tryd.prog) (fn := Tryd.f6) (N := 97) (R := R_) [.bool false] (by kernel_rfl) (hR_ _ _ ?_)
        exfalso; omega
    · refine XL_run 22 [(76, .eq (.bool false))] [(8, .bool false)] w_13 [Value.bool (55296 + (Int.tmod a 1024) == 55296 + (Int.tmod c 1024)) = Value.bool false] (by kernel_rfl) ⟨congrArg Value.bool (beq_eq_false_iff_ne.2 (c_16)), trivial⟩ ?_
      refine XL_nil ?_
      refine X_ret ?_
      refine RX.ret_ok (P := Tryd.prog) (fn := Tryd.f6) (N := 97) (R := R_) [.bool false] (by kernel_rfl) (hR_ _ _ ?_)
      exfalso; omega
  · refine XL_run 3 [(73, .eq (.bool false))] [(10, .int .i32 (56320 + (Int.tmod b 1024))), (12, .int .i32 (56320 + (Int.tmod d 1024))), (13, .int .i32 z_5), (70, .bool true), (73, .bool false), (74, .int .i32 (55296 + (Int.tmod a 1024))), (75, .int .i32 (55296 + (Int.tmod c 1024)))] w_13 [Value.bool (z_5 == z_9) = Value.bool false] (by kernel_rfl) ⟨congrArg Value.bool (beq_eq_false_iff_ne.2 (c_15)), trivial⟩ ?_
    by_cases c_23 : 55296 + (Int.tmod a 1024) = 55296 + (Int.tmod c 1024)
    · refine XL_run 4 [(76, .eq (.bool true))] [(13, .int .i32 z_5), (70, .bool true), (73, .bool false), (77, .bool true), (78, .int .i32 (56320 + (Int.tmod b 1024))), (79, .int .i32 (56320 + (Int.tmod d 1024)))] w_13 [Value.bool (55296 + (Int.tmod a 1024) == 55296 + (Int.tmod c 1024)) = Value.bool true] (by kernel_rfl) ⟨congrArg Value.bool (beq_iff_eq.2 (c_23)), trivial⟩ ?_
      by_cases c_24 : 56320 + (Int.tmod b 1024) = 56320 + (Int.tmod d 1024)
      · refine XL_run 18 [(80, .eq (.bool true))] [(8, .bool false)] w_13 [Value.bool (56320 + (Int.tmod b 1024) == 56320 + (Int.tmod d 1024)) = Value.bool true] (by kernel_rfl) ⟨congrArg Value.bool (beq_iff_eq.2 (c_24)), trivial⟩ ?_
        refine XL_nil ?_
        refine X_ret ?_
        refine RX.ret_ok (P := Tryd.prog) (fn := Tryd.f6) (N := 97) (R := R_) [.bool false] (by kernel_rfl) (hR_ _ _ ?_)
        exfalso; omega
      · refine XL_run 6 [(80, .eq (.bool false))] [(13, .int .i32 z_5), (84, .bool true), (85, .int .i32 z_5)] w_13 [Value.bool (56320 + (Int.tmod b 1024) == 56320 + (Int.tmod d 1024)) = Value.bool false] (by kernel_rfl) ⟨congrArg Value.bool (beq_eq_false_iff_ne.2 (c_24)), trivial⟩ ?_
        refine XL_call 14 rfl rfl rfl ent14 [.int .i32 z_5] (by kernel_rfl) (width_any z_5 _) ?_
        rintro e w_25 ⟨rfl, hb_26⟩; refine ⟨_, rfl, ?_⟩
        rw [width4 (by omega) (by omega)]
        refine XL_run 4 [(87, .eq (.bool true))] [(13, .int .i32 z_5), (89, .bool true), (90, .int .i32 z_5)] w_25 [Value.bool (((4 : Nat) : Int) == 4) = Value.bool true] (by kernel_rfl) ⟨congrArg Value.bool (beq_iff_eq.2 (rfl)), trivial⟩ ?_
        by_cases c_27 : z_5 ≥ 65536
        · refine XL_run 4 [(91, .eq (.bool true))] [(93, .bool true), (94, .int .i32 z_5)] w_25 [Value.bool (decide (z_5 ≥ 65536)) = Value.bool true] (by kernel_rfl) ⟨congrArg Value.bool (decide_eq_true (c_27)), trivial⟩ ?_
          by_cases c_28 : z_5 ≤ 1114111
          · refine XL_run 3 [(95, .eq (.bool true))] [(8, .bool true)] w_25 [Value.bool (decide (z_5 ≤ 1114111)) = Value.bool true] (by kernel_rfl) ⟨congrArg Value.bool (decide_eq_true (c_28)), trivial⟩ ?_
            refine XL_nil ?_
            refine X_ret ?_
            refine RX.ret_ok (P := Tryd.prog) (fn := Tryd.f6) (N := 97) (R := R_) [.bool true] (by kernel_rfl) (hR_ _ _ ?_)
            have hB_29 : Below w.heap.size w w_25 := (bt (bt (bt (bt (bt hb_2 hb_4) hb_8) hb_12) hb_14) hb_26)
            exact ⟨rfl, hB_29⟩
          · exfalso; omega
        · exfalso; omega
    · refine XL_run 10 [(76, .eq (.bool false))] [(13, .int .i32 z_5), (84, .bool true), (85, .int .i32 z_5)] w_13 [Value.bool (55296 + (Int.tmod a 1024) == 55296 + (Int.tmod c 1024)) = Value.bool false] (by kernel_rfl) ⟨congrArg Value.bool (beq_eq_false_iff_ne.2 (c_23)), trivial⟩ ?_
      refine XL_call 14 rfl rfl rfl ent14 [.int .i32 z_5] (by kernel_rfl) (width_any z_5 _) ?_
      rintro e w_30 ⟨rfl, hb_31⟩; refine ⟨_, rfl, ?_⟩
      rw [width4 (by omega) (by omega)]
      refine XL_run 4 [(87, .eq (.bool true))] [(13, .int .i32 z_5), (89, .bool true), (90, .int .i32 z_5)] w_30 [Value.bool (((4 : Nat) : Int) == 4) = Value.bool true] (by kernel_rfl) ⟨congrArg Value.bool (beq_iff_eq.2 (rfl)), trivial⟩ ?_
      by_cases c_32 : z_5 ≥ 65536
      · refine XL_run 4 [(91, .eq (.bool true))] [(93, .bool true), (94, .int .i32 z_5)] w_30 [Value.bool (decide (z_5 ≥ 65536)) = Value.bool true] (by kernel_rfl) ⟨congrArg Value.bool (decide_eq_true (c_32)), trivial⟩ ?_
        by_cases c_33 : z_5 ≤ 1114111
        · refine XL_run 3 [(95, .eq (.bool true))] [(8, .bool true)] w_30 [Value.bool (decide (z_5 ≤ 1114111)) = Value.bool true] (by kernel_rfl) ⟨congrArg Value.bool (decide_eq_true (c_33)), trivial⟩ ?_
          refine XL_nil ?_
          refine X_ret ?_
          refine RX.ret_ok (P := Tryd.prog) (fn := Tryd.f6) (N := 97) (R := R_) [.bool true] (by kernel_rfl) (hR_ _ _ ?_)
          have hB_34 : Below w.heap.size w w_30 := (bt (bt (bt (bt (bt hb_2 hb_4) hb_8) hb_12) hb_14) hb_31)
          exact ⟨rfl, hB_34⟩
        · exfalso; omega
      · exfalso; omega
end Go.Proofs.YtlnfgkafnpbeeaaDoor
