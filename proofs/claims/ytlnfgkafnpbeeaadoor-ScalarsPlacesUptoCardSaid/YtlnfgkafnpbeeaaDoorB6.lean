/- ScalarsBack returns true. Conditions: sizes, the tables of utf8, the errors' variables. -/
import Derived.Test.YtlnfgkafnpbeeaaDoorB5
set_option linter.unusedVariables false
set_option linter.unusedSimpArgs false
set_option maxRecDepth 100000
namespace Go.Proofs.YtlnfgkafnpbeeaaDoor
open Go Go.RowKit Go.Proofs.YtlnfgkafnpbeeaaDoorW.PrintWords RX
theorem RX.Kd.R_later {α : Type} {d : Kd α} {e : Nat} {W9 w1 w2 : World} {v : Value} {ys : List α} {row : Option Nat} (hq : d.R e w1 W9.heap.size (OkFrom W9.heap.size) v ys) (hlt : ∀ k, row = some k → k < W9.heap.size) (hg : w1.grownBy w2 row) :
    d.R e w2 W9.heap.size (OkFrom W9.heap.size) v ys := Kd.R_grown hq hg (fun k hk he => by have h1 := hlt k he.symm; have h2 : W9.heap.size ≤ k := hk; omega)
theorem RX.Kd.R_lt {α : Type} {d : Kd α} {e : Nat} {w : World} {base : Nat} {ok : Nat → Prop} {A : Option Addr} {n c : Nat} {xs : List α} (h : d.R e w base ok (.slice A n c) xs) : ∀ k, A.map (·.block) = some k → k < w.heap.size := by
  intro k hk
  obtain ⟨inner, ho⟩ := Kd.R_own h
  obtain ⟨cells, hb⟩ := own_typed ho k (by rw [ownB]; exact hk)
  exact (Array.getElem?_eq_some_iff.1 hb).1
theorem textP_ok {l : List Int} (h : (U.textP l).2 = 0) : (∀ r ∈ l, U.vz r) ∧ U.textP l = (runesBytes l, 0) := by
  unfold U.textP at h ⊢
  by_cases h0 : ∀ r ∈ l, U.vz r
  · rw [if_pos h0]; exact ⟨h0, rfl⟩
  · rw [if_neg h0] at h; cases h
theorem textP_good {l : List Int} (h : ∀ r ∈ l, U.vz r) : U.textP l = (runesBytes l, 0) := if_pos h
theorem listP_ok {s : ByteArray} (h : (U.listP s).2 = 0) : U.textP (U.listP s).1 = (s, 0) ∧ (U.listP s).1.length ≤ s.size := by
  unfold U.listP at h ⊢
  by_cases h0 : U.tl s = []
  · rw [if_pos h0]
    refine ⟨?_, by rw [List.length_map]; exact U.sc_le s⟩
    rw [textP_good (U.sc_vz s), U.text_back h0]
  · rw [if_neg h0] at h; cases h
theorem list_text {l : List Int} (h : ∀ r ∈ l, U.vz r) : U.listP (runesBytes l) = (l, 0) := by
  obtain ⟨h1, h2⟩ := U.text_utf h
  unfold U.listP
  rw [if_pos (show U.tl _ = [] from h1), h2]
theorem text_inj {a b : List Int} (ha : ∀ r ∈ a, U.vz r) (hb : ∀ r ∈ b, U.vz r) (e : runesBytes a = runesBytes b) : a = b := by
  have h1 := (U.text_utf ha).2
  rw [e, (U.text_utf hb).2] at h1
  exact h1.symm
theorem len1 (ys : List Int) (y : Int) : (ys ++ [y]).length = ys.length + 1 := by simp
theorem last_rd (xs : List Int) (y : Int) : rd (xs ++ [y]) (xs.length : Int) = y := by
  unfold rd
  rw [Int.toNat_natCast]
  simp [List.getD_eq_getElem?_getD]
set_option maxHeartbeats 4000000 in
theorem sback_any (s : ByteArray) (A1 : Option Addr) (c1 : Nat) (xs1 : List Int) (A2 : Option Addr) (c2 : Nat) (xs2 : List Int) (w : World) (hs : s.size ≤ 1048576) (hx1 : (Kd.int .i32).C w A1 xs1.length xs1) (hx2 : (Kd.int .i32).C w A2 xs2.length xs2) (hl1 : xs1.length ≤ 1048576) (hl2 : xs2.length ≤ 1048576) (hT : Tabs w) (es : List Addr) (hE : Errs w es) :
    Calls Tryd.prog 4 #[.string s, .slice A1 xs1.length c1, .slice A2 xs2.length c2] w fun e w' => e = .returned (.bool true) ∧ Below w.heap.size w w' := by
  have hA : ErrsA w es := hE.on (by decide)
  refine RX.enter Tryd.func4 rfl 116 rfl [(0, .string s), (1, .slice A1 xs1.length c1), (2, .slice A2 xs2.length c2)] rfl (by kernel_rfl) (fun R_ hR_ => ?_)
  refine X_seq ?_
  refine X_region ?_
  refine XL_run 1 [] [(0, .string s), (1, .slice A1 xs1.length c1), (2, .slice A2 xs2.length c2)] w [] (by kernel_rfl) trivial ?_
  refine XL_nil ?_
  refine X_seq ?_
  refine X_seq ?_
  refine X_region ?_
  refine XL_call 11 rfl rfl rfl ent11 [] (by kernel_rfl) (lives_any _ (hT.below (Below.refl _ _)) es (hE.below (Below.refl _ _))) ?_
  rintro e w_1 ⟨rfl, hb_2⟩; refine ⟨_, rfl, ?_⟩
  refine XL_run 1 [] [(0, .string s), (1, .slice A1 xs1.length c1), (2, .slice A2 xs2.length c2), (21, .bool false)] w_1 [] (by kernel_rfl) trivial ?_
  refine XL_nil ?_
  refine X_cond false rfl ?_
  refine X_skip ?_
  refine X_seq ?_
  refine X_region ?_
  refine XL_run 1 [] [(0, .string s), (1, .slice A1 xs1.length c1), (2, .slice A2 xs2.length c2), (23, .string s)] w_1 [] (by kernel_rfl) trivial ?_
  refine XL_call 21 rfl rfl rfl ent21 [.string s] (by kernel_rfl) (slist_any s _ (by omega) (hT.below hb_2) es (hA.below hb_2)) ?_
  rintro e w_7 ⟨A_3, c_4, rfl, hl_5, hr_6, hb_8⟩; refine ⟨_, rfl, ?_⟩
  refine XL_run 5 [] [(0, .string s), (1, .slice A1 xs1.length c1), (2, .slice A2 xs2.length c2), (7, .slice A_3 ((U.listP s).1.length) c_4), (8, errV es ((U.listP s).2))] w_7 [] (by kernel_rfl) trivial ?_
  refine XL_nil ?_
  refine X_seq ?_
  refine X_seq ?_
  refine X_region ?_
  refine XL_run 1 [] [(0, .string s), (1, .slice A1 xs1.length c1), (2, .slice A2 xs2.length c2), (7, .slice A_3 ((U.listP s).1.length) c_4), (27, errV es ((U.listP s).2))] w_7 [] (by kernel_rfl) trivial ?_
  by_cases c_9 : (U.listP s).2 = 0
  · obtain ⟨htl, hll⟩ := listP_ok c_9
    rw [show errV es ((U.listP s).2) = .nilIface from by rw [c_9]; rfl]
    refine XL_run 1 [] [(0, .string s), (1, .slice A1 xs1.length c1), (2, .slice A2 xs2.length c2), (7, .slice A_3 ((U.listP s).1.length) c_4), (28, .bool true)] w_7 [] (by kernel_rfl) trivial ?_
    refine XL_nil ?_
    refine X_cond true rfl ?_
    refine X_seq ?_
    refine X_region ?_
    refine XL_run 1 [] [(0, .string s), (1, .slice A1 xs1.length c1), (2, .slice A2 xs2.length c2), (7, .slice A_3 ((U.listP s).1.length) c_4), (30, .string s)] w_7 [] (by kernel_rfl) trivial ?_
    have hlt_14 := RX.Kd.R_lt hr_6
    refine XL_call 21 rfl rfl rfl ent21 [.string s] (by kernel_rfl) (slist_any s _ (by omega) (hT.below (bt hb_2 hb_8)) es (hA.below (bt hb_2 hb_8))) ?_
    rintro e w_15 ⟨A_10, c_11, rfl, hl_12, hr_13, hb_16⟩; refine ⟨_, rfl, ?_⟩
    rw [show errV es (U.listP s).2 = .nilIface from by rw [c_9]; rfl]
    refine XL_run 5 [] [(0, .string s), (1, .slice A1 xs1.length c1), (2, .slice A2 xs2.length c2), (7, .slice A_3 ((U.listP s).1.length) c_4), (9, .slice A_10 ((U.listP s).1.length) c_11)] w_15 [] (by kernel_rfl) trivial ?_
    refine XL_nil ?_
    refine X_seq ?_
    refine X_region ?_
    refine XL_run 1 [] [(0, .string s), (1, .slice A1 xs1.length c1), (2, .slice A2 xs2.length c2), (7, .slice A_3 ((U.listP s).1.length) c_4), (9, .slice A_10 ((U.listP s).1.length) c_11), (35, .slice A_3 ((U.listP s).1.length) c_4)] w_15 [] (by kernel_rfl) trivial ?_
    refine XL_call 12 rfl rfl rfl ent12 [.slice A_3 ((U.listP s).1.length) c_4] (by kernel_rfl) (text_any A_3 c_4 ((U.listP s).1) _ (Kd.R_C (Kd.R_below hr_6 hb_16)) es (hA.below (bt (bt hb_2 hb_8) hb_16))) ?_
    rintro e w_17 ⟨rfl, hb_18⟩; refine ⟨_, rfl, ?_⟩
    rw [htl, errV_zero]
    refine XL_run 5 [] [(0, .string s), (1, .slice A1 xs1.length c1), (2, .slice A2 xs2.length c2), (7, .slice A_3 ((U.listP s).1.length) c_4), (9, .slice A_10 ((U.listP s).1.length) c_11), (11, .string s), (12, .nilIface)] w_17 [] (by kernel_rfl) trivial ?_
    refine XL_nil ?_
    refine X_seq ?_
    refine X_seq ?_
    refine X_region ?_
    refine XL_run 7 [(44, .eq (.bool false))] [(0, .string s), (1, .slice A1 xs1.length c1), (2, .slice A2 xs2.length c2), (7, .slice A_3 ((U.listP s).1.length) c_4), (9, .slice A_10 ((U.listP s).1.length) c_11), (45, .bool false)] w_17 [Value.bool (!s.toList == s.toList) = Value.bool false] (by kernel_rfl) ⟨congrArg Value.bool (strNeF (rfl)), trivial⟩ ?_
    refine XL_nil ?_
    refine X_cond false rfl ?_
    refine X_skip ?_
    refine X_seq ?_
    refine X_seq ?_
    refine X_region ?_
    refine XL_run 3 [] [(0, .string s), (1, .slice A1 xs1.length c1), (2, .slice A2 xs2.length c2), (7, .slice A_3 ((U.listP s).1.length) c_4), (9, .slice A_10 ((U.listP s).1.length) c_11), (47, .int .i64 ((U.listP s).1.length : Int)), (48, .int .i64 0)] w_17 [] (by kernel_rfl) trivial ?_
    refine XL_nil ?_
    refine X_block ?_
    refine X_loop (ι := Nat × List Int) (fun ⟨i, ys⟩ => [(0, .string s), (1, .slice A1 xs1.length c1), (2, .slice A2 xs2.length c2), (7, .slice A_3 ((U.listP s).1.length) c_4), (9, .slice A_10 ((U.listP s).1.length) c_11), (47, .int .i64 ((U.listP s).1.length : Int)), (48, .int .i64 (i : Int))]) (fun ⟨i, ys⟩ wl => i ≤ (U.listP s).1.length ∧ ys.length = (U.listP s).1.length ∧ (Kd.int .i32).R 21 wl w_1.heap.size (OkFrom w_1.heap.size) (.slice A_3 (U.listP s).1.length c_4) ys ∧ (Kd.int .i32).R 21 wl w_7.heap.size (OkFrom w_7.heap.size) (.slice A_10 (U.listP s).1.length c_11) (U.listP s).1 ∧ w_1.heap.size ≤ wl.heap.size ∧ w_7.heap.size ≤ wl.heap.size ∧ Below w.heap.size w wl) (fun ⟨i, ys⟩ => (U.listP s).1.length - i) (0, (U.listP s).1) ⟨by omega, rfl, (Kd.R_below hr_6 (bt hb_16 hb_18)), (Kd.R_below hr_13 hb_18), ((bt (bt hb_8 hb_16) hb_18)).size, ((bt hb_16 hb_18)).size, (bt (bt (bt hb_2 hb_8) hb_16) hb_18)⟩ (by kernel_rfl) ?_
    rintro ⟨i, ys⟩ wl ⟨hi, hyl, hrl, hrm, hle1, hle2, HB⟩
    refine X_seq ?_
    refine X_region ?_
    by_cases c_19 : (i : Int) < ((U.listP s).1.length : Int)
    · refine XL_run 1 [(49, .eq (.bool true))] [(0, .string s), (1, .slice A1 xs1.length c1), (2, .slice A2 xs2.length c2), (7, .slice A_3 ((U.listP s).1.length) c_4), (9, .slice A_10 ((U.listP s).1.length) c_11), (47, .int .i64 ((U.listP s).1.length : Int)), (48, .int .i64 (i : Int)), (49, .bool true)] wl [Value.bool (decide ((i : Int) < ((U.listP s).1.length : Int))) = Value.bool true] (by kernel_rfl) ⟨congrArg Value.bool (decide_eq_true (c_19)), trivial⟩ ?_
      refine XL_nil ?_
      refine X_seq ?_
      refine X_cond true rfl ?_
      refine X_skip ?_
      refine X_seq ?_
      refine X_block ?_
      refine X_seq ?_
      refine X_region ?_
      refine XL_run 2 [] [(0, .string s), (1, .slice A1 xs1.length c1), (2, .slice A2 xs2.length c2), (7, .slice A_3 ((U.listP s).1.length) c_4), (9, .slice A_10 ((U.listP s).1.length) c_11), (13, .int .i64 (i : Int)), (47, .int .i64 ((U.listP s).1.length : Int)), (48, .int .i64 (i : Int))] wl [] (by kernel_rfl) trivial ?_
      refine XL_nil ?_
      refine X_region ?_
      refine XL_run 2 [] [(0, .string s), (1, .slice A1 xs1.length c1), (2, .slice A2 xs2.length c2), (7, .slice A_3 ((U.listP s).1.length) c_4), (9, .slice A_10 ((U.listP s).1.length) c_11), (47, .int .i64 ((U.listP s).1.length : Int)), (48, .int .i64 (i : Int)), (51, .slice A_3 ((U.listP s).1.length) c_4), (52, .int .i64 (i : Int))] wl [] (by kernel_rfl) trivial ?_
      obtain ⟨ad_20, ha_21, hc_22⟩ := Kd.atI (Kd.R_C hrl) (i := (i : Int)) (by omega) (by omega)
      refine XL_run 1 [(53, .idx ad_20)] [(0, .string s), (1, .slice A1 xs1.length c1), (2, .slice A2 xs2.length c2), (7, .slice A_3 ((U.listP s).1.length) c_4), (9, .slice A_10 ((U.listP s).1.length) c_11), (47, .int .i64 ((U.listP s).1.length : Int)), (48, .int .i64 (i : Int)), (53, .pointer (some (ad_20.add ((i : Int).toNat * 1))))] wl [A_3 = some ad_20, (0 : Int) ≤ (i : Int), (i : Int) < ((U.listP s).1.length : Int)] (by kernel_rfl) ⟨ha_21, (by omega), (by omega), trivial⟩ ?_
      refine XL_rowset (Kd.int .i32) rfl rfl rfl w_1.heap.size 21 (ad := ad_20) (i := (i : Int)) (v := .int .i32 1) ys 1 (by kernel_rfl) ha_21 hrl (by omega) (by omega) [.int .i32 1] ⟨by kernel_rfl, by kernel_rfl⟩ (by kernel_rfl) rfl ?_
      intro w_23 hr_24 hg_25 hl_26
      have hr_27 := RX.Kd.R_later hrm hlt_14 hg_25
      refine XL_nil ?_
      refine X_region ?_
      refine XL_run 2 [(54, .eq (.int .i64 ((i : Int) + 1)))] [(0, .string s), (1, .slice A1 xs1.length c1), (2, .slice A2 xs2.length c2), (7, .slice A_3 ((U.listP s).1.length) c_4), (9, .slice A_10 ((U.listP s).1.length) c_11), (47, .int .i64 ((U.listP s).1.length : Int)), (48, .int .i64 ((i : Int) + 1))] w_23 [Value.int .i64 (IntKind.i64.wrap ((i : Int) + 1)) = Value.int .i64 ((i : Int) + 1)] (by kernel_rfl) ⟨wr_i64 (by omega) (by omega), trivial⟩ ?_
      refine XL_nil ?_
      refine ⟨(i + 1, (ys.set (i : Int).toNat 1)), by kernel_rfl, ?_, ?_⟩
      · exact ⟨by omega, by rw [List.length_set]; exact hyl, hr_24, hr_27, (Nat.le_trans hle1 hg_25.size), (Nat.le_trans hle2 hg_25.size), (bgo HB hg_25 hl_26 (hb_2).size)⟩
      · (try dsimp only); omega
    · refine XL_run 1 [(49, .eq (.bool false))] [(0, .string s), (1, .slice A1 xs1.length c1), (2, .slice A2 xs2.length c2), (7, .slice A_3 ((U.listP s).1.length) c_4), (9, .slice A_10 ((U.listP s).1.length) c_11), (47, .int .i64 ((U.listP s).1.length : Int)), (48, .int .i64 (i : Int)), (49, .bool false)] wl [Value.bool (decide ((i : Int) < ((U.listP s).1.length : Int))) = Value.bool false] (by kernel_rfl) ⟨congrArg Value.bool (decide_eq_false (c_19)), trivial⟩ ?_
      refine XL_nil ?_
      refine X_seq ?_
      refine X_cond false rfl ?_
      refine X_exit ?_
      refine X_seq ?_
      refine X_region ?_
      refine XL_run 2 [] [(0, .string s), (1, .slice A1 xs1.length c1), (2, .slice A2 xs2.length c2), (9, .slice A_10 ((U.listP s).1.length) c_11), (55, .slice A_3 ((U.listP s).1.length) c_4), (56, .slice (some ⟨wl.heap.size, 0, none⟩) 1 1)] (wl.alloc (.cells #[.int .i32 2] 21)) [] (by kernel_rfl) trivial ?_
      obtain ⟨w_28, hw_32, hb_29, hk_30, hz_31⟩ := new_world wl #[.int .i32 2] 21
      rw [hw_32]
      rw [← hw_32]
      refine XL_append (Kd.int .i32) rfl rfl rfl w_1.heap.size 21 (.int .i32 0) 4 Tryd.underlying22 info21 rfl (by decide) (by omega) ys 2 [.int .i32 2] (fun _ => False) (by kernel_rfl) rfl (fun _ h => h.elim) hrl hle1 (by first | omega | (simp; omega)) ?_
      intro A_33 c_34 w_35 hr_36 hc_37 hg_38 hl_39 ha_40
      have hr_41 := RX.Kd.R_later hrm hlt_14 hg_38
      refine XL_run 1 [] [(0, .string s), (1, .slice A1 xs1.length c1), (2, .slice A2 xs2.length c2), (7, .slice A_33 ((ys ++ [2]).length) c_34), (9, .slice A_10 ((U.listP s).1.length) c_11)] w_35 [] (by kernel_rfl) trivial ?_
      refine XL_nil ?_
      refine X_seq ?_
      refine X_region ?_
      refine XL_run 1 [] [(0, .string s), (1, .slice A1 xs1.length c1), (2, .slice A2 xs2.length c2), (7, .slice A_33 ((ys ++ [2]).length) c_34), (59, .slice A_10 ((U.listP s).1.length) c_11)] w_35 [] (by kernel_rfl) trivial ?_
      refine XL_call 12 rfl rfl rfl ent12 [.slice A_10 ((U.listP s).1.length) c_11] (by kernel_rfl) (text_any A_10 c_11 ((U.listP s).1) _ (Kd.R_C hr_41) es (hA.below (bgo HB hg_38 hl_39 (hb_2).size))) ?_
      rintro e w_42 ⟨rfl, hb_43⟩; refine ⟨_, rfl, ?_⟩
      rw [htl, errV_zero]
      refine XL_run 5 [] [(0, .string s), (1, .slice A1 xs1.length c1), (2, .slice A2 xs2.length c2), (7, .slice A_33 ((ys ++ [2]).length) c_34), (12, .nilIface), (14, .string s)] w_42 [] (by kernel_rfl) trivial ?_
      refine XL_nil ?_
      refine X_seq ?_
      refine X_region ?_
      refine XL_run 12 [(68, .eq (.bool false)), (74, .eq (.int .i64 (ys.length : Int)))] [(1, .slice A1 xs1.length c1), (2, .slice A2 xs2.length c2), (70, .bool false), (71, .slice A_33 ((ys ++ [2]).length) c_34), (74, .int .i64 (ys.length : Int))] w_42 [Value.bool (!s.toList == s.toList) = Value.bool false, Value.int .i64 (IntKind.i64.wrap (((ys ++ [2]).length : Int) - 1)) = Value.int .i64 (ys.length : Int)] (by kernel_rfl) ⟨congrArg Value.bool (strNeF (rfl)), (by have h_ := len1 ys 2; have e_ : (((ys ++ [(2 : Int)]).length : Int) - 1) = (ys.length : Int) := (by omega); rw [e_, IntWalk.i64_in _ ⟨by omega, by omega⟩]), trivial⟩ ?_
      obtain ⟨ad_44, ha_45, hc_46⟩ := Kd.atI (Kd.R_C (Kd.R_below hr_36 hb_43)) (i := (ys.length : Int)) (by have h_ := len1 ys 2; omega) (by have h_ := len1 ys 2; omega)
      refine XL_run 4 [(75, .idx ad_44), (76, .load (.int .i32 (rd (ys ++ [2]) (ys.length : Int)))), (77, .eq (.bool false))] [(1, .slice A1 xs1.length c1), (2, .slice A2 xs2.length c2), (78, .bool false)] w_42 [A_33 = some ad_44, (0 : Int) ≤ (ys.length : Int), (ys.length : Int) < ((ys ++ [2]).length : Int), LoadsAs Tryd.prog 21 (ad_44.add ((ys.length : Int).toNat * 1)) (.int .i32 (rd (ys ++ [2]) (ys.length : Int))) w_42, Value.bool (rd (ys ++ [2]) (ys.length : Int) != 2) = Value.bool false] (by kernel_rfl) ⟨ha_45, (by have h_ := len1 ys 2; omega), (by have h_ := len1 ys 2; omega), loads1 rfl (elem_cell hc_46 0 _ rfl), congrArg Value.bool (bneF ((last_rd _ _))), trivial⟩ ?_
      refine XL_nil ?_
      refine X_cond false rfl ?_
      refine X_skip ?_
      refine X_seq ?_
      refine X_region ?_
      refine XL_run 1 [] [(1, .slice A1 xs1.length c1), (2, .slice A2 xs2.length c2), (80, .slice A1 xs1.length c1)] w_42 [] (by kernel_rfl) trivial ?_
      have hB_47 : Below w.heap.size w w_42 := (bt (bgo HB hg_38 hl_39 (hb_2).size) hb_43)
      refine XL_call 12 rfl rfl rfl ent12 [.slice A1 xs1.length c1] (by kernel_rfl) (text_any A1 c1 xs1 _ (Kd.C_below hx1 hB_47) es (hA.below hB_47)) ?_
      rintro e w_48 ⟨rfl, hb_49⟩; refine ⟨_, rfl, ?_⟩
      refine XL_run 5 [] [(1, .slice A1 xs1.length c1), (2, .slice A2 xs2.length c2), (8, errV es ((U.textP xs1).2)), (15, .string ((U.textP xs1).1))] w_48 [] (by kernel_rfl) trivial ?_
      refine XL_nil ?_
      refine X_seq ?_
      refine X_seq ?_
      refine X_region ?_
      refine XL_run 1 [] [(1, .slice A1 xs1.length c1), (2, .slice A2 xs2.length c2), (15, .string ((U.textP xs1).1)), (84, errV es ((U.textP xs1).2))] w_48 [] (by kernel_rfl) trivial ?_
      by_cases c_50 : (U.textP xs1).2 = 0
      · obtain ⟨hv1, htx⟩ := textP_ok c_50
        have htx1 : (U.textP xs1).1 = runesBytes xs1 := by rw [htx]
        rw [show errV es ((U.textP xs1).2) = .nilIface from by rw [c_50]; rfl]
        refine XL_run 1 [] [(1, .slice A1 xs1.length c1), (2, .slice A2 xs2.length c2), (15, .string ((U.textP xs1).1)), (85, .bool false)] w_48 [] (by kernel_rfl) trivial ?_
        refine XL_nil ?_
        refine X_cond false rfl ?_
        refine X_skip ?_
        refine X_seq ?_
        refine X_region ?_
        refine XL_run 1 [] [(1, .slice A1 xs1.length c1), (2, .slice A2 xs2.length c2), (15, .string ((U.textP xs1).1)), (87, .string ((U.textP xs1).1))] w_48 [] (by kernel_rfl) trivial ?_
        refine XL_call 21 rfl rfl rfl ent21 [.string ((U.textP xs1).1)] (by kernel_rfl) (slist_any ((U.textP xs1).1) _ (by rw [htx1]; have := runesBytes_size_le xs1; omega) (hT.below (bt hB_47 hb_49)) es (hA.below (bt hB_47 hb_49))) ?_
        rintro e w_55 ⟨A_51, c_52, rfl, hl_53, hr_54, hb_56⟩; refine ⟨_, rfl, ?_⟩
        rw [htx1, list_text hv1] at hl_53 hr_54 ⊢
        rw [errV_zero]
        refine XL_run 5 [] [(1, .slice A1 xs1.length c1), (2, .slice A2 xs2.length c2), (15, .string (runesBytes xs1)), (16, .slice A_51 xs1.length c_52), (17, .nilIface)] w_55 [] (by kernel_rfl) trivial ?_
        refine XL_nil ?_
        refine X_seq ?_
        refine X_region ?_
        refine XL_run 1 [] [(1, .slice A1 xs1.length c1), (2, .slice A2 xs2.length c2), (15, .string (runesBytes xs1)), (16, .slice A_51 xs1.length c_52), (17, .nilIface), (92, .slice A2 xs2.length c2)] w_55 [] (by kernel_rfl) trivial ?_
        refine XL_call 12 rfl rfl rfl ent12 [.slice A2 xs2.length c2] (by kernel_rfl) (text_any A2 c2 xs2 _ (Kd.C_below hx2 (bt (bt hB_47 hb_49) hb_56)) es (hA.below (bt (bt hB_47 hb_49) hb_56))) ?_
        rintro e w_57 ⟨rfl, hb_58⟩; refine ⟨_, rfl, ?_⟩
        refine XL_run 5 [] [(1, .slice A1 xs1.length c1), (2, .slice A2 xs2.length c2), (15, .string (runesBytes xs1)), (16, .slice A_51 xs1.length c_52), (17, .nilIface), (18, .string ((U.textP xs2).1)), (19, errV es ((U.textP xs2).2))] w_57 [] (by kernel_rfl) trivial ?_
        refine XL_nil ?_
        refine X_seq ?_
        refine X_region ?_
        refine XL_run 5 [] [(1, .slice A1 xs1.length c1), (2, .slice A2 xs2.length c2), (15, .string (runesBytes xs1)), (18, .string ((U.textP xs2).1)), (19, errV es ((U.textP xs2).2)), (98, .bool true), (99, .slice A_51 xs1.length c_52), (100, .slice A1 xs1.length c1)] w_57 [] (by kernel_rfl) trivial ?_
        refine XL_call 16 rfl rfl rfl ent16 [.slice A_51 xs1.length c_52, .slice A1 xs1.length c1] (by kernel_rfl) (srunes_any _ _ _ _ xs1 xs1 _ (Kd.R_C (Kd.R_below hr_54 hb_58)) (Kd.C_below hx1 (bt (bt (bt hB_47 hb_49) hb_56) hb_58))) ?_
        rintro e w_59 ⟨rfl, hb_60⟩; refine ⟨_, rfl, ?_⟩
        rw [decide_eq_true (show xs1 = xs1 from rfl)]
        refine XL_run 3 [] [(1, .slice A1 xs1.length c1), (2, .slice A2 xs2.length c2), (15, .string (runesBytes xs1)), (18, .string ((U.textP xs2).1)), (103, .bool true), (104, errV es ((U.textP xs2).2))] w_59 [] (by kernel_rfl) trivial ?_
        by_cases c_61 : (U.textP xs2).2 = 0
        · obtain ⟨hv2, hty⟩ := textP_ok c_61
          have hty1 : (U.textP xs2).1 = runesBytes xs2 := by rw [hty]
          rw [show errV es ((U.textP xs2).2) = .nilIface from by rw [c_61]; rfl]
          refine XL_run 4 [] [(1, .slice A1 xs1.length c1), (2, .slice A2 xs2.length c2), (103, .bool true), (106, .bool false), (107, .string (runesBytes xs1)), (108, .string ((U.textP xs2).1))] w_59 [] (by kernel_rfl) trivial ?_
          by_cases c_62 : (runesBytes xs1) = ((U.textP xs2).1)
          · refine XL_run 3 [(109, .eq (.bool true))] [(103, .bool true), (106, .bool false), (109, .bool true), (110, .slice A1 xs1.length c1), (111, .slice A2 xs2.length c2)] w_59 [Value.bool ((runesBytes xs1).toList == ((U.textP xs2).1).toList) = Value.bool true] (by kernel_rfl) ⟨congrArg Value.bool (strEqT (c_62)), trivial⟩ ?_
            have hB_63 : Below w.heap.size w w_59 := (bt (bt (bt (bt hB_47 hb_49) hb_56) hb_58) hb_60)
            refine XL_call 16 rfl rfl rfl ent16 [.slice A1 xs1.length c1, .slice A2 xs2.length c2] (by kernel_rfl) (srunes_any _ _ _ _ xs1 xs2 _ (Kd.C_below hx1 hB_63) (Kd.C_below hx2 hB_63)) ?_
            rintro e w_64 ⟨rfl, hb_65⟩; refine ⟨_, rfl, ?_⟩
            rw [decide_eq_true (show xs1 = xs2 from text_inj hv1 hv2 (by rw [← hty1]; exact c_62))]
            refine XL_run 4 [] [(6, .bool true)] w_64 [] (by kernel_rfl) trivial ?_
            refine XL_nil ?_
            refine X_ret ?_
            refine RX.ret_ok (P := Tryd.prog) (fn := Tryd.f4) (N := 116) (R := R_) [.bool true] (by kernel_rfl) (hR_ _ _ ?_)
            exact ⟨rfl, (bt hB_63 hb_65)⟩
          · refine XL_run 3 [(109, .eq (.bool false))] [(103, .bool true), (106, .bool false), (109, .bool false), (110, .slice A1 xs1.length c1), (111, .slice A2 xs2.length c2)] w_59 [Value.bool ((runesBytes xs1).toList == ((U.textP xs2).1).toList) = Value.bool false] (by kernel_rfl) ⟨congrArg Value.bool (strEqF (c_62)), trivial⟩ ?_
            have hB_66 : Below w.heap.size w w_59 := (bt (bt (bt (bt hB_47 hb_49) hb_56) hb_58) hb_60)
            refine XL_call 16 rfl rfl rfl ent16 [.slice A1 xs1.length c1, .slice A2 xs2.length c2] (by kernel_rfl) (srunes_any _ _ _ _ xs1 xs2 _ (Kd.C_below hx1 hB_66) (Kd.C_below hx2 hB_66)) ?_
            rintro e w_67 ⟨rfl, hb_68⟩; refine ⟨_, rfl, ?_⟩
            rw [decide_eq_false (show ¬ xs1 = xs2 from fun e_ => c_62 (by rw [hty1, e_]))]
            refine XL_run 4 [] [(6, .bool true)] w_67 [] (by kernel_rfl) trivial ?_
            refine XL_nil ?_
            refine X_ret ?_
            refine RX.ret_ok (P := Tryd.prog) (fn := Tryd.f4) (N := 116) (R := R_) [.bool true] (by kernel_rfl) (hR_ _ _ ?_)
            exact ⟨rfl, (bt hB_66 hb_68)⟩
        · rw [errV_pos es ((U.textP xs2).2) (Nat.pos_of_ne_zero c_61)]
          refine XL_run 12 [] [(6, .bool true)] w_59 [] (by kernel_rfl) trivial ?_
          refine XL_nil ?_
          refine X_ret ?_
          refine RX.ret_ok (P := Tryd.prog) (fn := Tryd.f4) (N := 116) (R := R_) [.bool true] (by kernel_rfl) (hR_ _ _ ?_)
          have hB_69 : Below w.heap.size w w_59 := (bt (bt (bt (bt hB_47 hb_49) hb_56) hb_58) hb_60)
          exact ⟨rfl, hB_69⟩
      · rw [errV_pos es ((U.textP xs1).2) (Nat.pos_of_ne_zero c_50)]
        refine XL_run 1 [] [(1, .slice A1 xs1.length c1), (2, .slice A2 xs2.length c2), (15, .string ((U.textP xs1).1)), (85, .bool true)] w_48 [] (by kernel_rfl) trivial ?_
        refine XL_nil ?_
        refine X_cond true rfl ?_
        refine X_seq ?_
        refine X_region ?_
        refine XL_run 1 [] [(6, .bool true)] w_48 [] (by kernel_rfl) trivial ?_
        refine XL_nil ?_
        refine X_ret ?_
        refine RX.ret_ok (P := Tryd.prog) (fn := Tryd.f4) (N := 116) (R := R_) [.bool true] (by kernel_rfl) (hR_ _ _ ?_)
        exact ⟨rfl, (bt hB_47 hb_49)⟩
  · rw [errV_pos es ((U.listP s).2) (Nat.pos_of_ne_zero c_9)]
    refine XL_run 1 [] [(0, .string s), (1, .slice A1 xs1.length c1), (2, .slice A2 xs2.length c2), (7, .slice A_3 ((U.listP s).1.length) c_4), (28, .bool false)] w_7 [] (by kernel_rfl) trivial ?_
    refine XL_nil ?_
    refine X_cond false rfl ?_
    refine X_skip ?_
    refine X_seq ?_
    refine X_region ?_
    refine XL_run 1 [] [(1, .slice A1 xs1.length c1), (2, .slice A2 xs2.length c2), (80, .slice A1 xs1.length c1)] w_7 [] (by kernel_rfl) trivial ?_
    refine XL_call 12 rfl rfl rfl ent12 [.slice A1 xs1.length c1] (by kernel_rfl) (text_any A1 c1 xs1 _ (Kd.C_below hx1 (bt hb_2 hb_8)) es (hA.below (bt hb_2 hb_8))) ?_
    rintro e w_70 ⟨rfl, hb_71⟩; refine ⟨_, rfl, ?_⟩
    refine XL_run 5 [] [(1, .slice A1 xs1.length c1), (2, .slice A2 xs2.length c2), (8, errV es ((U.textP xs1).2)), (15, .string ((U.textP xs1).1))] w_70 [] (by kernel_rfl) trivial ?_
    refine XL_nil ?_
    refine X_seq ?_
    refine X_seq ?_
    refine X_region ?_
    refine XL_run 1 [] [(1, .slice A1 xs1.length c1), (2, .slice A2 xs2.length c2), (15, .string ((U.textP xs1).1)), (84, errV es ((U.textP xs1).2))] w_70 [] (by kernel_rfl) trivial ?_
    by_cases c_72 : (U.textP xs1).2 = 0
    · obtain ⟨hv1, htx⟩ := textP_ok c_72
      have htx1 : (U.textP xs1).1 = runesBytes xs1 := by rw [htx]
      rw [show errV es ((U.textP xs1).2) = .nilIface from by rw [c_72]; rfl]
      refine XL_run 1 [] [(1, .slice A1 xs1.length c1), (2, .slice A2 xs2.length c2), (15, .string ((U.textP xs1).1)), (85, .bool false)] w_70 [] (by kernel_rfl) trivial ?_
      refine XL_nil ?_
      refine X_cond false rfl ?_
      refine X_skip ?_
      refine X_seq ?_
      refine X_region ?_
      refine XL_run 1 [] [(1, .slice A1 xs1.length c1), (2, .slice A2 xs2.length c2), (15, .string ((U.textP xs1).1)), (87, .string ((U.textP xs1).1))] w_70 [] (by kernel_rfl) trivial ?_
      refine XL_call 21 rfl rfl rfl ent21 [.string ((U.textP xs1).1)] (by kernel_rfl) (slist_any ((U.textP xs1).1) _ (by rw [htx1]; have := runesBytes_size_le xs1; omega) (hT.below (bt (bt hb_2 hb_8) hb_71)) es (hA.below (bt (bt hb_2 hb_8) hb_71))) ?_
      rintro e w_77 ⟨A_73, c_74, rfl, hl_75, hr_76, hb_78⟩; refine ⟨_, rfl, ?_⟩
      rw [htx1, list_text hv1] at hl_75 hr_76 ⊢
      rw [errV_zero]
      refine XL_run 5 [] [(1, .slice A1 xs1.length c1), (2, .slice A2 xs2.length c2), (15, .string (runesBytes xs1)), (16, .slice A_73 xs1.length c_74), (17, .nilIface)] w_77 [] (by kernel_rfl) trivial ?_
      refine XL_nil ?_
      refine X_seq ?_
      refine X_region ?_
      refine XL_run 1 [] [(1, .slice A1 xs1.length c1), (2, .slice A2 xs2.length c2), (15, .string (runesBytes xs1)), (16, .slice A_73 xs1.length c_74), (17, .nilIface), (92, .slice A2 xs2.length c2)] w_77 [] (by kernel_rfl) trivial ?_
      refine XL_call 12 rfl rfl rfl ent12 [.slice A2 xs2.length c2] (by kernel_rfl) (text_any A2 c2 xs2 _ (Kd.C_below hx2 (bt (bt (bt hb_2 hb_8) hb_71) hb_78)) es (hA.below (bt (bt (bt hb_2 hb_8) hb_71) hb_78))) ?_
      rintro e w_79 ⟨rfl, hb_80⟩; refine ⟨_, rfl, ?_⟩
      refine XL_run 5 [] [(1, .slice A1 xs1.length c1), (2, .slice A2 xs2.length c2), (15, .string (runesBytes xs1)), (16, .slice A_73 xs1.length c_74), (17, .nilIface), (18, .string ((U.textP xs2).1)), (19, errV es ((U.textP xs2).2))] w_79 [] (by kernel_rfl) trivial ?_
      refine XL_nil ?_
      refine X_seq ?_
      refine X_region ?_
      refine XL_run 5 [] [(1, .slice A1 xs1.length c1), (2, .slice A2 xs2.length c2), (15, .string (runesBytes xs1)), (18, .string ((U.textP xs2).1)), (19, errV es ((U.textP xs2).2)), (98, .bool true), (99, .slice A_73 xs1.length c_74), (100, .slice A1 xs1.length c1)] w_79 [] (by kernel_rfl) trivial ?_
      have hB_81 : Below w.heap.size w w_79 := (bt (bt (bt (bt hb_2 hb_8) hb_71) hb_78) hb_80)
      refine XL_call 16 rfl rfl rfl ent16 [.slice A_73 xs1.length c_74, .slice A1 xs1.length c1] (by kernel_rfl) (srunes_any _ _ _ _ xs1 xs1 _ (Kd.R_C (Kd.R_below hr_76 hb_80)) (Kd.C_below hx1 hB_81)) ?_
      rintro e w_82 ⟨rfl, hb_83⟩; refine ⟨_, rfl, ?_⟩
      rw [decide_eq_true (show xs1 = xs1 from rfl)]
      refine XL_run 3 [] [(1, .slice A1 xs1.length c1), (2, .slice A2 xs2.length c2), (15, .string (runesBytes xs1)), (18, .string ((U.textP xs2).1)), (103, .bool true), (104, errV es ((U.textP xs2).2))] w_82 [] (by kernel_rfl) trivial ?_
      by_cases c_84 : (U.textP xs2).2 = 0
      · obtain ⟨hv2, hty⟩ := textP_ok c_84
        have hty1 : (U.textP xs2).1 = runesBytes xs2 := by rw [hty]
        rw [show errV es ((U.textP xs2).2) = .nilIface from by rw [c_84]; rfl]
        refine XL_run 4 [] [(1, .slice A1 xs1.length c1), (2, .slice A2 xs2.length c2), (103, .bool true), (106, .bool false), (107, .string (runesBytes xs1)), (108, .string ((U.textP xs2).1))] w_82 [] (by kernel_rfl) trivial ?_
        by_cases c_85 : (runesBytes xs1) = ((U.textP xs2).1)
        · refine XL_run 3 [(109, .eq (.bool true))] [(103, .bool true), (106, .bool false), (109, .bool true), (110, .slice A1 xs1.length c1), (111, .slice A2 xs2.length c2)] w_82 [Value.bool ((runesBytes xs1).toList == ((U.textP xs2).1).toList) = Value.bool true] (by kernel_rfl) ⟨congrArg Value.bool (strEqT (c_85)), trivial⟩ ?_
          refine XL_call 16 rfl rfl rfl ent16 [.slice A1 xs1.length c1, .slice A2 xs2.length c2] (by kernel_rfl) (srunes_any _ _ _ _ xs1 xs2 _ (Kd.C_below hx1 (bt hB_81 hb_83)) (Kd.C_below hx2 (bt hB_81 hb_83))) ?_
          rintro e w_86 ⟨rfl, hb_87⟩; refine ⟨_, rfl, ?_⟩
          rw [decide_eq_true (show xs1 = xs2 from text_inj hv1 hv2 (by rw [← hty1]; exact c_85))]
          refine XL_run 4 [] [(6, .bool true)] w_86 [] (by kernel_rfl) trivial ?_
          refine XL_nil ?_
          refine X_ret ?_
          refine RX.ret_ok (P := Tryd.prog) (fn := Tryd.f4) (N := 116) (R := R_) [.bool true] (by kernel_rfl) (hR_ _ _ ?_)
          exact ⟨rfl, (bt (bt hB_81 hb_83) hb_87)⟩
        · refine XL_run 3 [(109, .eq (.bool false))] [(103, .bool true), (106, .bool false), (109, .bool false), (110, .slice A1 xs1.length c1), (111, .slice A2 xs2.length c2)] w_82 [Value.bool ((runesBytes xs1).toList == ((U.textP xs2).1).toList) = Value.bool false] (by kernel_rfl) ⟨congrArg Value.bool (strEqF (c_85)), trivial⟩ ?_
          refine XL_call 16 rfl rfl rfl ent16 [.slice A1 xs1.length c1, .slice A2 xs2.length c2] (by kernel_rfl) (srunes_any _ _ _ _ xs1 xs2 _ (Kd.C_below hx1 (bt hB_81 hb_83)) (Kd.C_below hx2 (bt hB_81 hb_83))) ?_
          rintro e w_88 ⟨rfl, hb_89⟩; refine ⟨_, rfl, ?_⟩
          rw [decide_eq_false (show ¬ xs1 = xs2 from fun e_ => c_85 (by rw [hty1, e_]))]
          refine XL_run 4 [] [(6, .bool true)] w_88 [] (by kernel_rfl) trivial ?_
          refine XL_nil ?_
          refine X_ret ?_
          refine RX.ret_ok (P := Tryd.prog) (fn := Tryd.f4) (N := 116) (R := R_) [.bool true] (by kernel_rfl) (hR_ _ _ ?_)
          exact ⟨rfl, (bt (bt hB_81 hb_83) hb_89)⟩
      · rw [errV_pos es ((U.textP xs2).2) (Nat.pos_of_ne_zero c_84)]
        refine XL_run 12 [] [(6, .bool true)] w_82 [] (by kernel_rfl) trivial ?_
        refine XL_nil ?_
        refine X_ret ?_
        refine RX.ret_ok (P := Tryd.prog) (fn := Tryd.f4) (N := 116) (R := R_) [.bool true] (by kernel_rfl) (hR_ _ _ ?_)
        exact ⟨rfl, (bt hB_81 hb_83)⟩
    · rw [errV_pos es ((U.textP xs1).2) (Nat.pos_of_ne_zero c_72)]
      refine XL_run 1 [] [(1, .slice A1 xs1.length c1), (2, .slice A2 xs2.length c2), (15, .string ((U.textP xs1).1)), (85, .bool true)] w_70 [] (by kernel_rfl) trivial ?_
      refine XL_nil ?_
      refine X_cond true rfl ?_
      refine X_seq ?_
      refine X_region ?_
      refine XL_run 1 [] [(6, .bool true)] w_70 [] (by kernel_rfl) trivial ?_
      refine XL_nil ?_
      refine X_ret ?_
      refine RX.ret_ok (P := Tryd.prog) (fn := Tryd.f4) (N := 116) (R := R_) [.bool true] (by kernel_rfl) (hR_ _ _ ?_)
      exact ⟨rfl, (bt (bt hb_2 hb_8) hb_71)⟩
end Go.Proofs.YtlnfgkafnpbeeaaDoor
