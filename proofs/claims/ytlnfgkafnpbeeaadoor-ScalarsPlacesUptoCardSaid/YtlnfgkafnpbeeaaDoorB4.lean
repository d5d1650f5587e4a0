/- ScalarsJoined returns true. Conditions: sizes, the tables of utf8, the errors' variables. -/
import Derived.Test.YtlnfgkafnpbeeaaDoorB2
set_option linter.unusedVariables false
set_option linter.unusedSimpArgs false
set_option maxRecDepth 100000
namespace Go.Proofs.YtlnfgkafnpbeeaaDoor
open Go Go.RowKit Go.Proofs.YtlnfgkafnpbeeaaDoorW.PrintWords RX
/-- a rest of numbers -/
theorem run_rem {t : TypeId} {k : IntKind} {a b : Int} (hb : b ≠ 0) (w : World) : (binOp .rem t (.int k a) (.int k b)).run Tryd.prog w = .ok (.int k (Int.tmod a b)) w := by
  rw [binOp_rem]
  simp [Op.intDiv, hb]
theorem tm_bd {x y : Int} (hx : 0 ≤ x) (hy : 0 < y) : 0 ≤ x.tmod y ∧ x.tmod y < y := by
  rw [Int.tmod_eq_emod_of_nonneg hx]
  exact ⟨Int.emod_nonneg _ (by omega), Int.emod_lt_of_pos _ hy⟩
theorem u64_nonneg (x : Int) : 0 ≤ IntKind.u64.wrap x := by rw [IntKind.wrap_u64]; omega
open Classical in
noncomputable def chkN (s : ByteArray) : Nat := if U.tl s = [] then 0 else 1
theorem chkN_le (s : ByteArray) : chkN s ≤ 1 := by unfold chkN; split <;> omega
theorem chkN_iff (s : ByteArray) : chkN s = 0 ↔ U.tl s = [] := by unfold chkN; split <;> simp_all
theorem chk_iff (s : ByteArray) : chkN s = 0 ↔ U.brkAt s = s.size := (chkN_iff s).trans (U.utf_iff s)
theorem scheck2 (s : ByteArray) (w : World) (hs : s.size ≤ 9223372036854775807) (hT : Tabs w) (es : List Addr) (hE : ErrsA w es) : Calls Tryd.prog 22 #[.string s] w fun e w' => e = .returned (.tuple #[.int .i64 ((U.brkAt s : Nat) : Int), errV es (chkN s)]) ∧ Below w.heap.size w w' := by
  refine (scheck_any s w hs hT es hE).mono fun e w' h => ⟨?_, h.2⟩
  rw [h.1, U.uchk_eq]
  unfold chkN
  by_cases h0 : U.tl s = []
  · simp [h0]
  · simp [h0]
theorem brk_of {s : ByteArray} {rs : List Nat} {t : List UInt8} (h : U.Brk (U.bl s) rs t) : U.brkAt s = (U.flat rs).length ∧ (t = [] ↔ chkN s = 0) := by
  obtain ⟨h1, h2⟩ := U.brk_sc h
  exact ⟨by unfold U.brkAt; rw [h1], by rw [chkN_iff, h2]⟩
theorem ext_le (s : ByteArray) (i j : Nat) : (s.extract i j).size ≤ s.size := by
  rw [← U.bl_size, ← U.bl_size, U.bl_extract, List.length_take, List.length_drop]; omega
theorem bl_append (s t : ByteArray) : U.bl (s ++ t) = U.bl s ++ U.bl t := by simp [U.bl]
theorem size_app (s t : ByteArray) : (s ++ t).size = s.size + t.size := by rw [← U.bl_size, bl_append, List.length_append, U.bl_size, U.bl_size]
theorem chk_head (s : ByteArray) : U.brkAt (s.extract 0 (U.brkAt s)) = U.brkAt s ∧ chkN (s.extract 0 (U.brkAt s)) = 0 := by
  have h := brk_of (s := s.extract 0 (U.brkAt s)) (rs := U.sc s) (t := []) (by
    rw [U.bl_extract, List.drop_zero, Nat.sub_zero, (U.brk s).eq]
    unfold U.brkAt
    rw [List.take_left]
    exact U.brk_flat (U.sc_ok s))
  exact ⟨h.1, h.2.1 rfl⟩
theorem chk_cut (s : ByteArray) (k : Int) (h0 : (U.brkAt s : Int) < k) (h1 : k ≤ s.size) : U.brkAt (s.extract 0 k.toNat) = U.brkAt s ∧ chkN (s.extract 0 k.toNat) = 1 := by
  have hl := U.brkAt_le s
  have h := brk_of (s := s.extract 0 k.toNat) (rs := U.sc s) (t := (U.tl s).take (k.toNat - U.brkAt s)) (by
    rw [U.bl_extract, List.drop_zero, Nat.sub_zero, (U.brk s).eq, List.take_append]
    rw [List.take_of_length_le (l := U.flat (U.sc s)) (by have : (U.flat (U.sc s)).length = U.brkAt s := rfl; omega)]
    exact { eq := rfl, ok := U.sc_ok s, stop := U.not_starts_take (U.brk s).stop _ })
  refine ⟨h.1, ?_⟩
  have h2 := h.2
  have hne : ¬ (U.tl s).take (k.toNat - U.brkAt s) = [] := fun e => by
    have := congrArg List.length e
    rw [List.length_take, List.length_nil] at this
    omega
  have := chkN_le (s.extract 0 k.toNat)
  have h3 : ¬ chkN (s.extract 0 k.toNat) = 0 := fun e => hne (h2.2 e)
  omega
theorem chk_join (s t : ByteArray) (h : chkN s = 0) : U.brkAt (s ++ t) = U.brkAt s + U.brkAt t := by
  have hu := (chkN_iff s).1 h
  have h := brk_of (s := s ++ t) (rs := U.sc s ++ U.sc t) (t := U.tl t) {
    eq := by rw [bl_append, U.utf_flat hu, (U.brk t).eq, U.flat_append, List.append_assoc]
    ok := fun r hr => (List.mem_append.1 hr).elim (U.sc_ok s r) (U.sc_ok t r)
    stop := (U.brk t).stop }
  rw [h.1, U.flat_append, List.length_append]; rfl
set_option maxHeartbeats 2000000 in
theorem sjoined_any (a b : ByteArray) (more : Int) (w : World) (hsa : a.size ≤ 1048576) (hsb : b.size ≤ 1048576) (hm0 : -9223372036854775808 ≤ more) (hm1 : more ≤ 9223372036854775807) (hT : Tabs w) (es : List Addr) (hE : Errs w es) :
    Calls Tryd.prog 5 #[.string a, .string b, .int .i64 more] w fun e w' => e = .returned (.bool true) ∧ Below w.heap.size w w' := by
  have hA : ErrsA w es := hE.on (by decide)
  have hba := U.brkAt_le a
  have hbb := U.brkAt_le b
  have hia := chk_iff a
  refine RX.enter Tryd.func5 rfl 104 rfl [(0, .string a), (1, .string b), (2, .int .i64 more)] rfl (by kernel_rfl) (fun R_ hR_ => ?_)
  refine X_seq ?_
  refine X_region ?_
  refine XL_run 1 [] [(0, .string a), (1, .string b), (2, .int .i64 more)] w [] (by kernel_rfl) trivial ?_
  refine XL_nil ?_
  refine X_seq ?_
  refine X_seq ?_
  refine X_region ?_
  refine XL_call 11 rfl rfl rfl ent11 [] (by kernel_rfl) (lives_any _ (hT.below (Below.refl _ _)) es (hE.below (Below.refl _ _))) ?_
  rintro e w_1 ⟨rfl, hb_2⟩; refine ⟨_, rfl, ?_⟩
  refine XL_run 1 [] [(0, .string a), (1, .string b), (2, .int .i64 more), (19, .bool false)] w_1 [] (by kernel_rfl) trivial ?_
  refine XL_nil ?_
  refine X_cond false rfl ?_
  refine X_skip ?_
  refine X_seq ?_
  refine X_region ?_
  refine XL_run 1 [] [(0, .string a), (1, .string b), (2, .int .i64 more), (21, .string a)] w_1 [] (by kernel_rfl) trivial ?_
  refine XL_call 22 rfl rfl rfl ent22 [.string a] (by kernel_rfl) (scheck2 a _ (by omega) (hT.below hb_2) es (hA.below hb_2)) ?_
  rintro e w_3 ⟨rfl, hb_4⟩; refine ⟨_, rfl, ?_⟩
  refine XL_run 5 [] [(0, .string a), (1, .string b), (2, .int .i64 more), (7, .int .i64 (U.brkAt a : Int)), (8, errV es (chkN a))] w_3 [] (by kernel_rfl) trivial ?_
  refine XL_nil ?_
  refine X_seq ?_
  refine X_seq ?_
  refine X_region ?_
  refine XL_run 1 [] [(0, .string a), (1, .string b), (2, .int .i64 more), (7, .int .i64 (U.brkAt a : Int)), (8, errV es (chkN a)), (25, .int .i64 (U.brkAt a : Int))] w_3 [] (by kernel_rfl) trivial ?_
  by_cases c_5 : (U.brkAt a : Int) < 0
  · refine XL_run 16 [(26, .eq (.bool true))] [(0, .string a), (1, .string b), (2, .int .i64 more), (7, .int .i64 (U.brkAt a : Int)), (41, .bool true)] w_3 [Value.bool (decide ((U.brkAt a : Int) < 0)) = Value.bool true] (by kernel_rfl) ⟨congrArg Value.bool (decide_eq_true (c_5)), trivial⟩ ?_
    refine XL_nil ?_
    refine X_cond true rfl ?_
    refine X_seq ?_
    refine X_region ?_
    refine XL_run 1 [] [(6, .bool false)] w_3 [] (by kernel_rfl) trivial ?_
    refine XL_nil ?_
    refine X_ret ?_
    refine RX.ret_ok (P := Tryd.prog) (fn := Tryd.f5) (N := 104) (R := R_) [.bool false] (by kernel_rfl) (hR_ _ _ ?_)
    exfalso; omega
  · refine XL_run 5 [(26, .eq (.bool false))] [(0, .string a), (1, .string b), (2, .int .i64 more), (7, .int .i64 (U.brkAt a : Int)), (8, errV es (chkN a)), (27, .bool false), (28, .int .i64 (U.brkAt a : Int)), (30, .int .i64 (a.size : Int))] w_3 [Value.bool (decide ((U.brkAt a : Int) < 0)) = Value.bool false] (by kernel_rfl) ⟨congrArg Value.bool (decide_eq_false (c_5)), trivial⟩ ?_
    by_cases c_6 : (U.brkAt a : Int) > (a.size : Int)
    · refine XL_run 11 [(31, .eq (.bool true))] [(0, .string a), (1, .string b), (2, .int .i64 more), (7, .int .i64 (U.brkAt a : Int)), (41, .bool true)] w_3 [Value.bool (decide ((U.brkAt a : Int) > (a.size : Int))) = Value.bool true] (by kernel_rfl) ⟨congrArg Value.bool (decide_eq_true (c_6)), trivial⟩ ?_
      refine XL_nil ?_
      refine X_cond true rfl ?_
      refine X_seq ?_
      refine X_region ?_
      refine XL_run 1 [] [(6, .bool false)] w_3 [] (by kernel_rfl) trivial ?_
      refine XL_nil ?_
      refine X_ret ?_
      refine RX.ret_ok (P := Tryd.prog) (fn := Tryd.f5) (N := 104) (R := R_) [.bool false] (by kernel_rfl) (hR_ _ _ ?_)
      exfalso; omega
    · refine XL_run 4 [(31, .eq (.bool false))] [(0, .string a), (1, .string b), (2, .int .i64 more), (7, .int .i64 (U.brkAt a : Int)), (33, .bool false), (34, errV es (chkN a))] w_3 [Value.bool (decide ((U.brkAt a : Int) > (a.size : Int))) = Value.bool false] (by kernel_rfl) ⟨congrArg Value.bool (decide_eq_false (c_6)), trivial⟩ ?_
      by_cases c_7 : (chkN a) = 0
      · rw [show errV es (chkN a) = .nilIface from by rw [c_7]; rfl]
        refine XL_run 4 [] [(0, .string a), (1, .string b), (2, .int .i64 more), (7, .int .i64 (U.brkAt a : Int)), (33, .bool false), (35, .bool true), (36, .int .i64 (U.brkAt a : Int)), (38, .int .i64 (a.size : Int))] w_3 [] (by kernel_rfl) trivial ?_
        by_cases c_8 : (U.brkAt a : Int) = (a.size : Int)
        · refine XL_run 3 [(39, .eq (.bool true))] [(0, .string a), (1, .string b), (2, .int .i64 more), (7, .int .i64 (U.brkAt a : Int)), (41, .bool false)] w_3 [Value.bool ((U.brkAt a : Int) == (a.size : Int)) = Value.bool true] (by kernel_rfl) ⟨congrArg Value.bool (beq_iff_eq.2 (c_8)), trivial⟩ ?_
          refine XL_nil ?_
          refine X_cond false rfl ?_
          refine X_skip ?_
          refine X_seq ?_
          refine X_region ?_
          refine XL_run 3 [(45, .as (.string (a.extract 0 (U.brkAt a))))] [(0, .string a), (1, .string b), (2, .int .i64 more), (7, .int .i64 (U.brkAt a : Int)), (45, .string (a.extract 0 (U.brkAt a)))] w_3 [RunsAs Tryd.prog [(43, .string a), (44, .int .i64 (U.brkAt a : Int))] (Go.Op.slice 9 (Go.Operand.tmp 43) none (some (Go.Operand.tmp 44)) none) 9 (.string (a.extract 0 (U.brkAt a))) w_3] (by kernel_rfl) ⟨runs_slice_sh (h := (U.brkAt a : Int)) Tryd.underlying9 rfl rfl (by omega) (by omega), trivial⟩ ?_
          refine XL_call 22 rfl rfl rfl ent22 [.string (a.extract 0 (U.brkAt a))] (by kernel_rfl) (scheck2 (a.extract 0 (U.brkAt a)) _ (by have := ext_le a 0 (U.brkAt a); omega) (hT.below (bt hb_2 hb_4)) es (hA.below (bt hb_2 hb_4))) ?_
          rintro e w_9 ⟨rfl, hb_10⟩; refine ⟨_, rfl, ?_⟩
          rw [(chk_head a).1, (chk_head a).2, errV_zero]
          refine XL_run 5 [] [(0, .string a), (1, .string b), (2, .int .i64 more), (7, .int .i64 (U.brkAt a : Int)), (9, .int .i64 (U.brkAt a : Int)), (10, .nilIface)] w_9 [] (by kernel_rfl) trivial ?_
          refine XL_nil ?_
          refine X_seq ?_
          refine X_seq ?_
          refine X_region ?_
          refine XL_run 7 [(51, .eq (.bool false))] [(0, .string a), (1, .string b), (2, .int .i64 more), (7, .int .i64 (U.brkAt a : Int)), (55, .bool false)] w_9 [Value.bool ((U.brkAt a : Int) != (U.brkAt a : Int)) = Value.bool false] (by kernel_rfl) ⟨congrArg Value.bool (bneF rfl), trivial⟩ ?_
          refine XL_nil ?_
          refine X_cond false rfl ?_
          refine X_skip ?_
          refine X_seq ?_
          refine X_seq ?_
          refine X_region ?_
          refine XL_run 3 [] [(0, .string a), (1, .string b), (2, .int .i64 more), (7, .int .i64 (U.brkAt a : Int)), (56, .int .i64 (U.brkAt a : Int)), (58, .int .i64 (a.size : Int))] w_9 [] (by kernel_rfl) trivial ?_
          by_cases c_11 : (U.brkAt a : Int) < (a.size : Int)
          · refine XL_run 1 [(59, .eq (.bool true))] [(0, .string a), (1, .string b), (2, .int .i64 more), (7, .int .i64 (U.brkAt a : Int)), (59, .bool true)] w_9 [Value.bool (decide ((U.brkAt a : Int) < (a.size : Int))) = Value.bool true] (by kernel_rfl) ⟨congrArg Value.bool (decide_eq_true (c_11)), trivial⟩ ?_
            refine XL_nil ?_
            refine X_cond true rfl ?_
            refine X_seq ?_
            refine X_region ?_
            obtain ⟨q_12, hq_13, hq0_14, hq1_15⟩ : ∃ q_ : Int, Int.tmod (IntKind.u64.wrap (more)) ((a.size : Int) - (U.brkAt a : Int)) = q_ ∧ 0 ≤ q_ ∧ q_ < (a.size : Int) - (U.brkAt a : Int) := ⟨_, rfl, (tm_bd (u64_nonneg _) (by omega)).1, (tm_bd (u64_nonneg _) (by omega)).2⟩
            refine XL_run 13 [(61, .eq (.int .i64 ((U.brkAt a : Int) + 1))), (67, .eq (.int .i64 ((a.size : Int) - (U.brkAt a : Int)))), (68, .eq (.int .u64 ((a.size : Int) - (U.brkAt a : Int)))), (69, .as (.int .u64 q_12)), (70, .eq (.int .i64 q_12)), (71, .eq (.int .i64 (((U.brkAt a : Int) + 1) + q_12)))] [(0, .string a), (7, .int .i64 (U.brkAt a : Int)), (11, .int .i64 (((U.brkAt a : Int) + 1) + q_12))] w_9 [Value.int .i64 (IntKind.i64.wrap ((U.brkAt a : Int) + 1)) = Value.int .i64 ((U.brkAt a : Int) + 1), Value.int .i64 (IntKind.i64.wrap ((a.size : Int) - (U.brkAt a : Int))) = Value.int .i64 ((a.size : Int) - (U.brkAt a : Int)), Value.int .u64 (IntKind.u64.wrap ((a.size : Int) - (U.brkAt a : Int))) = Value.int .u64 ((a.size : Int) - (U.brkAt a : Int)), RunsAs Tryd.prog [(63, .int .u64 (IntKind.u64.wrap (more))), (68, .int .u64 ((a.size : Int) - (U.brkAt a : Int)))] (Go.Op.binOp Go.BinOp.rem 43 (Go.Operand.tmp 63) (Go.Operand.tmp 68) 43) 43 (.int .u64 q_12) w_9, Value.int .i64 (IntKind.i64.wrap (q_12)) = Value.int .i64 q_12, Value.int .i64 (IntKind.i64.wrap (((U.brkAt a : Int) + 1) + q_12)) = Value.int .i64 (((U.brkAt a : Int) + 1) + q_12)] (by kernel_rfl) ⟨wr_i64 (by omega) (by omega), wr_i64 (by omega) (by omega), wr_u64 (by omega) (by omega), runs_bin rfl rfl rfl (by have h_ := run_rem (t := 43) (k := .u64) (a := (IntKind.u64.wrap (more))) (b := ((a.size : Int) - (U.brkAt a : Int))) (by omega) w_9; rwa [hq_13] at h_), wr_i64 (by omega) (by omega), wr_i64 (by omega) (by omega), trivial⟩ ?_
            refine XL_nil ?_
            refine X_seq ?_
            refine X_region ?_
            refine XL_run 3 [(75, .as (.string (a.extract 0 ((((U.brkAt a : Int) + 1) + q_12).toNat))))] [(7, .int .i64 (U.brkAt a : Int)), (75, .string (a.extract 0 ((((U.brkAt a : Int) + 1) + q_12).toNat)))] w_9 [RunsAs Tryd.prog [(73, .string a), (74, .int .i64 (((U.brkAt a : Int) + 1) + q_12))] (Go.Op.slice 9 (Go.Operand.tmp 73) none (some (Go.Operand.tmp 74)) none) 9 (.string (a.extract 0 ((((U.brkAt a : Int) + 1) + q_12).toNat))) w_9] (by kernel_rfl) ⟨runs_slice_sh (h := ((U.brkAt a : Int) + 1) + q_12) Tryd.underlying9 rfl rfl (by omega) (by omega), trivial⟩ ?_
            refine XL_call 22 rfl rfl rfl ent22 [.string (a.extract 0 ((((U.brkAt a : Int) + 1) + q_12).toNat))] (by kernel_rfl) (scheck2 (a.extract 0 ((((U.brkAt a : Int) + 1) + q_12).toNat)) _ (by have := ext_le a 0 ((((U.brkAt a : Int) + 1) + q_12).toNat); omega) (hT.below (bt (bt hb_2 hb_4) hb_10)) es (hA.below (bt (bt hb_2 hb_4) hb_10))) ?_
            rintro e w_16 ⟨rfl, hb_17⟩; refine ⟨_, rfl, ?_⟩
            have hc_18 := chk_cut a (((U.brkAt a : Int) + 1) + q_12) (by omega) (by omega)
            rw [hc_18.1, hc_18.2, errV_pos es 1 (by decide)]
            refine XL_run 5 [] [(7, .int .i64 (U.brkAt a : Int)), (12, .int .i64 (U.brkAt a : Int)), (13, .iface 80 (.pointer (some (errAt es 1))))] w_16 [] (by kernel_rfl) trivial ?_
            refine XL_nil ?_
            refine X_seq ?_
            refine X_region ?_
            refine XL_run 5 [(81, .eq (.bool true))] [(82, .bool true), (83, .iface 80 (.pointer (some (errAt es 1))))] w_16 [Value.bool ((U.brkAt a : Int) == (U.brkAt a : Int)) = Value.bool true] (by kernel_rfl) ⟨congrArg Value.bool (beq_self_eq_true _), trivial⟩ ?_
            refine XL_call 18 rfl rfl rfl ent18 [.iface 80 (.pointer (some (errAt es 1)))] (by kernel_rfl) (num_err es 1 (by decide) (by decide) _ (hE.below (bt (bt (bt hb_2 hb_4) hb_10) hb_17))) ?_
            rintro e w_19 ⟨rfl, hb_20⟩; refine ⟨_, rfl, ?_⟩
            refine XL_run 3 [(85, .eq (.bool true))] [(6, .bool true)] w_19 [Value.bool (((1 : Nat) : Int) == 1) = Value.bool true] (by kernel_rfl) ⟨congrArg Value.bool (beq_iff_eq.2 (rfl)), trivial⟩ ?_
            refine XL_nil ?_
            refine X_ret ?_
            refine RX.ret_ok (P := Tryd.prog) (fn := Tryd.f5) (N := 104) (R := R_) [.bool true] (by kernel_rfl) (hR_ _ _ ?_)
            have hB_21 : Below w.heap.size w w_19 := (bt (bt (bt (bt hb_2 hb_4) hb_10) hb_17) hb_20)
            exact ⟨rfl, hB_21⟩
          · refine XL_run 1 [(59, .eq (.bool false))] [(0, .string a), (1, .string b), (2, .int .i64 more), (7, .int .i64 (U.brkAt a : Int)), (59, .bool false)] w_9 [Value.bool (decide ((U.brkAt a : Int) < (a.size : Int))) = Value.bool false] (by kernel_rfl) ⟨congrArg Value.bool (decide_eq_false (c_11)), trivial⟩ ?_
            refine XL_nil ?_
            refine X_cond false rfl ?_
            refine X_skip ?_
            refine X_seq ?_
            refine X_region ?_
            refine XL_run 1 [] [(0, .string a), (1, .string b), (7, .int .i64 (U.brkAt a : Int)), (88, .string b)] w_9 [] (by kernel_rfl) trivial ?_
            refine XL_call 22 rfl rfl rfl ent22 [.string b] (by kernel_rfl) (scheck2 b _ (by omega) (hT.below (bt (bt hb_2 hb_4) hb_10)) es (hA.below (bt (bt hb_2 hb_4) hb_10))) ?_
            rintro e w_22 ⟨rfl, hb_23⟩; refine ⟨_, rfl, ?_⟩
            refine XL_run 5 [] [(0, .string a), (1, .string b), (7, .int .i64 (U.brkAt a : Int)), (14, .int .i64 (U.brkAt b : Int))] w_22 [] (by kernel_rfl) trivial ?_
            refine XL_nil ?_
            refine X_seq ?_
            refine X_region ?_
            refine XL_run 3 [(95, .as (.string (a ++ b)))] [(7, .int .i64 (U.brkAt a : Int)), (14, .int .i64 (U.brkAt b : Int)), (95, .string (a ++ b))] w_22 [RunsAs Tryd.prog [(93, .string a), (94, .string b)] (Go.Op.binOp Go.BinOp.add 9 (Go.Operand.tmp 93) (Go.Operand.tmp 94) 9) 9 (.string (a ++ b)) w_22] (by kernel_rfl) ⟨runs_bin rfl rfl rfl (run_sadd (by omega)), trivial⟩ ?_
            refine XL_call 22 rfl rfl rfl ent22 [.string (a ++ b)] (by kernel_rfl) (scheck2 (a ++ b) _ (by rw [size_app]; omega) (hT.below (bt (bt (bt hb_2 hb_4) hb_10) hb_23)) es (hA.below (bt (bt (bt hb_2 hb_4) hb_10) hb_23))) ?_
            rintro e w_24 ⟨rfl, hb_25⟩; refine ⟨_, rfl, ?_⟩
            have hj := chk_join a b (by omega)
            refine XL_run 5 [] [(7, .int .i64 (U.brkAt a : Int)), (14, .int .i64 (U.brkAt b : Int)), (16, .int .i64 (U.brkAt (a ++ b) : Int))] w_24 [] (by kernel_rfl) trivial ?_
            refine XL_nil ?_
            refine X_seq ?_
            refine X_region ?_
            refine XL_run 4 [(102, .eq (.int .i64 ((U.brkAt a : Int) + (U.brkAt b : Int))))] [(99, .int .i64 (U.brkAt (a ++ b) : Int)), (102, .int .i64 ((U.brkAt a : Int) + (U.brkAt b : Int)))] w_24 [Value.int .i64 (IntKind.i64.wrap ((U.brkAt a : Int) + (U.brkAt b : Int))) = Value.int .i64 ((U.brkAt a : Int) + (U.brkAt b : Int))] (by kernel_rfl) ⟨wr_i64 (by omega) (by omega), trivial⟩ ?_
            by_cases c_26 : (U.brkAt (a ++ b) : Int) = (U.brkAt a : Int) + (U.brkAt b : Int)
            · refine XL_run 2 [(103, .eq (.bool true))] [(6, .bool true)] w_24 [Value.bool ((U.brkAt (a ++ b) : Int) == (U.brkAt a : Int) + (U.brkAt b : Int)) = Value.bool true] (by kernel_rfl) ⟨congrArg Value.bool (beq_iff_eq.2 (c_26)), trivial⟩ ?_
              refine XL_nil ?_
              refine X_ret ?_
              refine RX.ret_ok (P := Tryd.prog) (fn := Tryd.f5) (N := 104) (R := R_) [.bool true] (by kernel_rfl) (hR_ _ _ ?_)
              have hB_27 : Below w.heap.size w w_24 := (bt (bt (bt (bt hb_2 hb_4) hb_10) hb_23) hb_25)
              exact ⟨rfl, hB_27⟩
            · refine XL_run 2 [(103, .eq (.bool false))] [(6, .bool false)] w_24 [Value.bool ((U.brkAt (a ++ b) : Int) == (U.brkAt a : Int) + (U.brkAt b : Int)) = Value.bool false] (by kernel_rfl) ⟨congrArg Value.bool (beq_eq_false_iff_ne.2 (c_26)), trivial⟩ ?_
              refine XL_nil ?_
              refine X_ret ?_
              refine RX.ret_ok (P := Tryd.prog) (fn := Tryd.f5) (N := 104) (R := R_) [.bool false] (by kernel_rfl) (hR_ _ _ ?_)
              exfalso; omega
        · refine XL_run 3 [(39, .eq (.bool false))] [(0, .string a), (1, .string b), (2, .int .i64 more), (7, .int .i64 (U.brkAt a : Int)), (41, .bool true)] w_3 [Value.bool ((U.brkAt a : Int) == (a.size : Int)) = Value.bool false] (by kernel_rfl) ⟨congrArg Value.bool (beq_eq_false_iff_ne.2 (c_8)), trivial⟩ ?_
          refine XL_nil ?_
          refine X_cond true rfl ?_
          refine X_seq ?_
          refine X_region ?_
          refine XL_run 1 [] [(6, .bool false)] w_3 [] (by kernel_rfl) trivial ?_
          refine XL_nil ?_
          refine X_ret ?_
          refine RX.ret_ok (P := Tryd.prog) (fn := Tryd.f5) (N := 104) (R := R_) [.bool false] (by kernel_rfl) (hR_ _ _ ?_)
          exfalso; omega
      · rw [errV_pos es (chkN a) (Nat.pos_of_ne_zero c_7)]
        refine XL_run 4 [] [(0, .string a), (1, .string b), (2, .int .i64 more), (7, .int .i64 (U.brkAt a : Int)), (33, .bool false), (35, .bool false), (36, .int .i64 (U.brkAt a : Int)), (38, .int .i64 (a.size : Int))] w_3 [] (by kernel_rfl) trivial ?_
        by_cases c_28 : (U.brkAt a : Int) = (a.size : Int)
        · refine XL_run 3 [(39, .eq (.bool true))] [(0, .string a), (1, .string b), (2, .int .i64 more), (7, .int .i64 (U.brkAt a : Int)), (41, .bool true)] w_3 [Value.bool ((U.brkAt a : Int) == (a.size : Int)) = Value.bool true] (by kernel_rfl) ⟨congrArg Value.bool (beq_iff_eq.2 (c_28)), trivial⟩ ?_
          refine XL_nil ?_
          refine X_cond true rfl ?_
          refine X_seq ?_
          refine X_region ?_
          refine XL_run 1 [] [(6, .bool false)] w_3 [] (by kernel_rfl) trivial ?_
          refine XL_nil ?_
          refine X_ret ?_
          refine RX.ret_ok (P := Tryd.prog) (fn := Tryd.f5) (N := 104) (R := R_) [.bool false] (by kernel_rfl) (hR_ _ _ ?_)
          exfalso; omega
        · refine XL_run 3 [(39, .eq (.bool false))] [(0, .string a), (1, .string b), (2, .int .i64 more), (7, .int .i64 (U.brkAt a : Int)), (41, .bool false)] w_3 [Value.bool ((U.brkAt a : Int) == (a.size : Int)) = Value.bool false] (by kernel_rfl) ⟨congrArg Value.bool (beq_eq_false_iff_ne.2 (c_28)), trivial⟩ ?_
          refine XL_nil ?_
          refine X_cond false rfl ?_
          refine X_skip ?_
          refine X_seq ?_
          refine X_region ?_
          refine XL_run 3 [(45, .as (.string (a.extract 0 (U.brkAt a))))] [(0, .string a), (1, .string b), (2, .int .i64 more), (7, .int .i64 (U.brkAt a : Int)), (45, .string (a.extract 0 (U.brkAt a)))] w_3 [RunsAs Tryd.prog [(43, .string a), (44, .int .i64 (U.brkAt a : Int))] (Go.Op.slice 9 (Go.Operand.tmp 43) none (some (Go.Operand.tmp 44)) none) 9 (.string (a.extract 0 (U.brkAt a))) w_3] (by kernel_rfl) ⟨runs_slice_sh (h := (U.brkAt a : Int)) Tryd.underlying9 rfl rfl (by omega) (by omega), trivial⟩ ?_
          refine XL_call 22 rfl rfl rfl ent22 [.string (a.extract 0 (U.brkAt a))] (by kernel_rfl) (scheck2 (a.extract 0 (U.brkAt a)) _ (by have := ext_le a 0 (U.brkAt a); omega) (hT.below (bt hb_2 hb_4)) es (hA.below (bt hb_2 hb_4))) ?_
          rintro e w_29 ⟨rfl, hb_30⟩; refine ⟨_, rfl, ?_⟩
          rw [(chk_head a).1, (chk_head a).2, errV_zero]
          refine XL_run 5 [] [(0, .string a), (1, .string b), (2, .int .i64 more), (7, .int .i64 (U.brkAt a : Int)), (9, .int .i64 (U.brkAt a : Int)), (10, .nilIface)] w_29 [] (by kernel_rfl) trivial ?_
          refine XL_nil ?_
          refine X_seq ?_
          refine X_seq ?_
          refine X_region ?_
          refine XL_run 7 [(51, .eq (.bool false))] [(0, .string a), (1, .string b), (2, .int .i64 more), (7, .int .i64 (U.brkAt a : Int)), (55, .bool false)] w_29 [Value.bool ((U.brkAt a : Int) != (U.brkAt a : Int)) = Value.bool false] (by kernel_rfl) ⟨congrArg Value.bool (bneF rfl), trivial⟩ ?_
          refine XL_nil ?_
          refine X_cond false rfl ?_
          refine X_skip ?_
          refine X_seq ?_
          refine X_seq ?_
          refine X_region ?_
          refine XL_run 3 [] [(0, .string a), (1, .string b), (2, .int .i64 more), (7, .int .i64 (U.brkAt a : Int)), (56, .int .i64 (U.brkAt a : Int)), (58, .int .i64 (a.size : Int))] w_29 [] (by kernel_rfl) trivial ?_
          by_cases c_31 : (U.brkAt a : Int) < (a.size : Int)
          · refine XL_run 1 [(59, .eq (.bool true))] [(0, .string a), (1, .string b), (2, .int .i64 more), (7, .int .i64 (U.brkAt a : Int)), (59, .bool true)] w_29 [Value.bool (decide ((U.brkAt a : Int) < (a.size : Int))) = Value.bool true] (by kernel_rfl) ⟨congrArg Value.bool (decide_eq_true (c_31)), trivial⟩ ?_
            refine XL_nil ?_
            refine X_cond true rfl ?_
            refine X_seq ?_
            refine X_region ?_
            obtain ⟨q_32, hq_33, hq0_34, hq1_35⟩ : ∃ q_ : Int, Int.tmod (IntKind.u64.wrap (more)) ((a.size : Int) - (U.brkAt a : Int)) = q_ ∧ 0 ≤ q_ ∧ q_ < (a.size : Int) - (U.brkAt a : Int) := ⟨_, rfl, (tm_bd (u64_nonneg _) (by omega)).1, (tm_bd (u64_nonneg _) (by omega)).2⟩
            refine XL_run 13 [(61, .eq (.int .i64 ((U.brkAt a : Int) + 1))), (67, .eq (.int .i64 ((a.size : Int) - (U.brkAt a : Int)))), (68, .eq (.int .u64 ((a.size : Int) - (U.brkAt a : Int)))), (69, .as (.int .u64 q_32)), (70, .eq (.int .i64 q_32)), (71, .eq (.int .i64 (((U.brkAt a : Int) + 1) + q_32)))] [(0, .string a), (7, .int .i64 (U.brkAt a : Int)), (11, .int .i64 (((U.brkAt a : Int) + 1) + q_32))] w_29 [Value.int .i64 (IntKind.i64.wrap ((U.brkAt a : Int) + 1)) = Value.int .i64 ((U.brkAt a : Int) + 1), Value.int .i64 (IntKind.i64.wrap ((a.size : Int) - (U.brkAt a : Int))) = Value.int .i64 ((a.size : Int) - (U.brkAt a : Int)), Value.int .u64 (IntKind.u64.wrap ((a.size : Int) - (U.brkAt a : Int))) = Value.int .u64 ((a.size : Int) - (U.brkAt a : Int)), RunsAs Tryd.prog [(63, .int .u64 (IntKind.u64.wrap (more))), (68, .int .u64 ((a.size : Int) - (U.brkAt a : Int)))] (Go.Op.binOp Go.BinOp.rem 43 (Go.Operand.tmp 63) (Go.Operand.tmp 68) 43) 43 (.int .u64 q_32) w_29, Value.int .i64 (IntKind.i64.wrap (q_32)) = Value.int .i64 q_32, Value.int .i64 (IntKind.i64.wrap (((U.brkAt a : Int) + 1) + q_32)) = Value.int .i64 (((U.brkAt a : Int) + 1) + q_32)] (by kernel_rfl) ⟨wr_i64 (by omega) (by omega), wr_i64 (by omega) (by omega), wr_u64 (by omega) (by omega), runs_bin rfl rfl rfl (by have h_ := run_rem (t := 43) (k := .u64) (a := (IntKind.u64.wrap (more))) (b := ((a.size : Int) - (U.brkAt a : Int))) (by omega) w_29; rwa [hq_33] at h_), wr_i64 (by omega) (by omega), wr_i64 (by omega) (by omega), trivial⟩ ?_
            refine XL_nil ?_
            refine X_seq ?_
            refine X_region ?_
            refine XL_run 3 [(75, .as (.string (a.extract 0 ((((U.brkAt a : Int) + 1) + q_32).toNat))))] [(7, .int .i64 (U.brkAt a : Int)), (75, .string (a.extract 0 ((((U.brkAt a : Int) + 1) + q_32).toNat)))] w_29 [RunsAs Tryd.prog [(73, .string a), (74, .int .i64 (((U.brkAt a : Int) + 1) + q_32))] (Go.Op.slice 9 (Go.Operand.tmp 73) none (some (Go.Operand.tmp 74)) none) 9 (.string (a.extract 0 ((((U.brkAt a : Int) + 1) + q_32).toNat))) w_29] (by kernel_rfl) ⟨runs_slice_sh (h := ((U.brkAt a : Int) + 1) + q_32) Tryd.underlying9 rfl rfl (by omega) (by omega), trivial⟩ ?_
            refine XL_call 22 rfl rfl rfl ent22 [.string (a.extract 0 ((((U.brkAt a : Int) + 1) + q_32).toNat))] (by kernel_rfl) (scheck2 (a.extract 0 ((((U.brkAt a : Int) + 1) + q_32).toNat)) _ (by have := ext_le a 0 ((((U.brkAt a : Int) + 1) + q_32).toNat); omega) (hT.below (bt (bt hb_2 hb_4) hb_30)) es (hA.below (bt (bt hb_2 hb_4) hb_30))) ?_
            rintro e w_36 ⟨rfl, hb_37⟩; refine ⟨_, rfl, ?_⟩
            have hc_38 := chk_cut a (((U.brkAt a : Int) + 1) + q_32) (by omega) (by omega)
            rw [hc_38.1, hc_38.2, errV_pos es 1 (by decide)]
            refine XL_run 5 [] [(7, .int .i64 (U.brkAt a : Int)), (12, .int .i64 (U.brkAt a : Int)), (13, .iface 80 (.pointer (some (errAt es 1))))] w_36 [] (by kernel_rfl) trivial ?_
            refine XL_nil ?_
            refine X_seq ?_
            refine X_region ?_
            refine XL_run 5 [(81, .eq (.bool true))] [(82, .bool true), (83, .iface 80 (.pointer (some (errAt es 1))))] w_36 [Value.bool ((U.brkAt a : Int) == (U.brkAt a : Int)) = Value.bool true] (by kernel_rfl) ⟨congrArg Value.bool (beq_self_eq_true _), trivial⟩ ?_
            refine XL_call 18 rfl rfl rfl ent18 [.iface 80 (.pointer (some (errAt es 1)))] (by kernel_rfl) (num_err es 1 (by decide) (by decide) _ (hE.below (bt (bt (bt hb_2 hb_4) hb_30) hb_37))) ?_
            rintro e w_39 ⟨rfl, hb_40⟩; refine ⟨_, rfl, ?_⟩
            refine XL_run 3 [(85, .eq (.bool true))] [(6, .bool true)] w_39 [Value.bool (((1 : Nat) : Int) == 1) = Value.bool true] (by kernel_rfl) ⟨congrArg Value.bool (beq_iff_eq.2 (rfl)), trivial⟩ ?_
            refine XL_nil ?_
            refine X_ret ?_
            refine RX.ret_ok (P := Tryd.prog) (fn := Tryd.f5) (N := 104) (R := R_) [.bool true] (by kernel_rfl) (hR_ _ _ ?_)
            have hB_41 : Below w.heap.size w w_39 := (bt (bt (bt (bt hb_2 hb_4) hb_30) hb_37) hb_40)
            exact ⟨rfl, hB_41⟩
          · refine XL_run 1 [(59, .eq (.bool false))] [(0, .string a), (1, .string b), (2, .int .i64 more), (7, .int .i64 (U.brkAt a : Int)), (59, .bool false)] w_29 [Value.bool (decide ((U.brkAt a : Int) < (a.size : Int))) = Value.bool false] (by kernel_rfl) ⟨congrArg Value.bool (decide_eq_false (c_31)), trivial⟩ ?_
            refine XL_nil ?_
            refine X_cond false rfl ?_
            refine X_skip ?_
            refine X_seq ?_
            refine X_region ?_
            refine XL_run 1 [] [(0, .string a), (1, .string b), (7, .int .i64 (U.brkAt a : Int)), (88, .string b)] w_29 [] (by kernel_rfl) trivial ?_
            refine XL_call 22 rfl rfl rfl ent22 [.string b] (by kernel_rfl) (scheck2 b _ (by omega) (hT.below (bt (bt hb_2 hb_4) hb_30)) es (hA.below (bt (bt hb_2 hb_4) hb_30))) ?_
            rintro e w_42 ⟨rfl, hb_43⟩; refine ⟨_, rfl, ?_⟩
            refine XL_run 5 [] [(0, .string a), (1, .string b), (7, .int .i64 (U.brkAt a : Int)), (14, .int .i64 (U.brkAt b : Int))] w_42 [] (by kernel_rfl) trivial ?_
            refine XL_nil ?_
            refine X_seq ?_
            refine X_region ?_
            refine XL_run 3 [(95, .as (.string (a ++ b)))] [(7, .int .i64 (U.brkAt a : Int)), (14, .int .i64 (U.brkAt b : Int)), (95, .string (a ++ b))] w_42 [RunsAs Tryd.prog [(93, .string a), (94, .string b)] (Go.Op.binOp Go.BinOp.add 9 (Go.Operand.tmp 93) (Go.Operand.tmp 94) 9) 9 (.string (a ++ b)) w_42] (by kernel_rfl) ⟨runs_bin rfl rfl rfl (run_sadd (by omega)), trivial⟩ ?_
            refine XL_call 22 rfl rfl rfl ent22 [.string (a ++ b)] (by kernel_rfl) (scheck2 (a ++ b) _ (by rw [size_app]; omega) (hT.below (bt (bt (bt hb_2 hb_4) hb_30) hb_43)) es (hA.below (bt (bt (bt hb_2 hb_4) hb_30) hb_43))) ?_
            rintro e w_44 ⟨rfl, hb_45⟩; refine ⟨_, rfl, ?_⟩
            have hj := chk_join a b (by omega)
            refine XL_run 5 [] [(7, .int .i64 (U.brkAt a : Int)), (14, .int .i64 (U.brkAt b : Int)), (16, .int .i64 (U.brkAt (a ++ b) : Int))] w_44 [] (by kernel_rfl) trivial ?_
            refine XL_nil ?_
            refine X_seq ?_
            refine X_region ?_
            refine XL_run 4 [(102, .eq (.int .i64 ((U.brkAt a : Int) + (U.brkAt b : Int))))] [(99, .int .i64 (U.brkAt (a ++ b) : Int)), (102, .int .i64 ((U.brkAt a : Int) + (U.brkAt b : Int)))] w_44 [Value.int .i64 (IntKind.i64.wrap ((U.brkAt a : Int) + (U.brkAt b : Int))) = Value.int .i64 ((U.brkAt a : Int) + (U.brkAt b : Int))] (by kernel_rfl) ⟨wr_i64 (by omega) (by omega), trivial⟩ ?_
            by_cases c_46 : (U.brkAt (a ++ b) : Int) = (U.brkAt a : Int) + (U.brkAt b : Int)
            · refine XL_run 2 [(103, .eq (.bool true))] [(6, .bool true)] w_44 [Value.bool ((U.brkAt (a ++ b) : Int) == (U.brkAt a : Int) + (U.brkAt b : Int)) = Value.bool true] (by kernel_rfl) ⟨congrArg Value.bool (beq_iff_eq.2 (c_46)), trivial⟩ ?_
              refine XL_nil ?_
              refine X_ret ?_
              refine RX.ret_ok (P := Tryd.prog) (fn := Tryd.f5) (N := 104) (R := R_) [.bool true] (by kernel_rfl) (hR_ _ _ ?_)
              have hB_47 : Below w.heap.size w w_44 := (bt (bt (bt (bt hb_2 hb_4) hb_30) hb_43) hb_45)
              exact ⟨rfl, hB_47⟩
            · refine XL_run 2 [(103, .eq (.bool false))] [(6, .bool false)] w_44 [Value.bool ((U.brkAt (a ++ b) : Int) == (U.brkAt a : Int) + (U.brkAt b : Int)) = Value.bool false] (by kernel_rfl) ⟨congrArg Value.bool (beq_eq_false_iff_ne.2 (c_46)), trivial⟩ ?_
              refine XL_nil ?_
              refine X_ret ?_
              refine RX.ret_ok (P := Tryd.prog) (fn := Tryd.f5) (N := 104) (R := R_) [.bool false] (by kernel_rfl) (hR_ _ _ ?_)
              exfalso; omega
end Go.Proofs.YtlnfgkafnpbeeaaDoor
