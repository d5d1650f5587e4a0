/- What scalars.Each goes over; ScalarsTexts. Conditions: sizes that the row bounds, the tables of utf8, the errors' variables. -/
import Derived.Test.YtkehomiogkoomaaDoorB2
import Derived.Test.YtkehomiogkoomaaDoorB7b
import Derived.Test.YtkehomiogkoomaaDoorIt
set_option linter.unusedVariables false
set_option linter.unusedSimpArgs false
set_option maxRecDepth 100000
namespace Go.Proofs.YtkehomiogkoomaaDoor
open Go Go.RowKit Go.Proofs.YtkehomiogkoomaaDoorW.PrintWords RX
theorem ent93 : Ent Tryd.prog 93 := ent_of Tryd.func93 (by kernel_rfl) rfl
theorem ent143 : Ent Tryd.prog 143 := ent_of Tryd.func143 (by kernel_rfl) rfl
theorem ent23 : Ent Tryd.prog 23 := ent_of Tryd.func23 (by kernel_rfl) rfl
/-- place number n -/
noncomputable def eaO (s : ByteArray) (n : Nat) : Nat := (U.flat ((U.sc s).take n)).length
noncomputable def eaF (s : ByteArray) (n : Nat) : Int × Int := ((eaO s n : Int), rd (U.scz s) (n : Int))
theorem scz_rd {s : ByteArray} {n : Nat} (h : n < (U.sc s).length) : ∃ r rest, (U.sc s).drop n = r :: rest ∧ rd (U.scz s) (n : Int) = (r : Int) ∧ U.vr r ∧ (U.sc s).take (n + 1) = (U.sc s).take n ++ [r] := by
  refine ⟨(U.sc s)[n], (U.sc s).drop (n + 1), List.drop_eq_getElem_cons h, ?_, U.sc_ok s _ (List.getElem_mem h), by rw [List.take_add_one, List.getElem?_eq_getElem h]; rfl⟩
  unfold rd U.scz
  simp [List.getD_eq_getElem?_getD, h]
theorem ea_step {s : ByteArray} {n : Nat} (h : n < (U.sc s).length) : ∃ r : Nat, rd (U.scz s) (n : Int) = (r : Int) ∧ U.vr r ∧ nextP (s.extract (eaO s n) s.size) = (r, (U.enc r).length) ∧ eaO s (n + 1) = eaO s n + (U.enc r).length := by
  obtain ⟨r, rest, h1, h2, h3, h4⟩ := scz_rd h
  refine ⟨r, h2, h3, ?_, by unfold eaO; rw [h4, U.flat_snoc]⟩
  have hb := U.brk_at s (done := (U.sc s).take n) (rest := r :: rest) (by rw [← h1, List.take_append_drop])
  rw [← U.bl_drop] at hb
  exact U.nextP_brk hb
theorem ea_end (s : ByteArray) : nextP (s.extract (eaO s (U.sc s).length) s.size) = (0, 0) := by
  have hb := U.brk_at s (done := (U.sc s).take (U.sc s).length) (rest := []) (by rw [List.append_nil, List.take_length])
  rw [← U.bl_drop] at hb
  exact U.nextP_brk hb
theorem ea_le (s : ByteArray) (n : Nat) : eaO s n ≤ s.size := U.flat_done_le s (rest := (U.sc s).drop n) (List.take_append_drop n _).symm
theorem ea_out {s : ByteArray} {n : Nat} (h : ¬ eaO s n < s.size) (hn : n ≤ (U.sc s).length) : n = (U.sc s).length := by
  have := congrArg List.length (U.done_end s (rest := (U.sc s).drop n) (List.take_append_drop n _).symm h)
  simp at this
  omega
noncomputable abbrev eaP (s : ByteArray) : List (Int × Int) := seqP (U.sc s).length (eaF s)
theorem seach_any (s : ByteArray) (w : World) : Calls Tryd.prog 93 #[.string s] w fun e w' => e = .returned (.func (.func 143) #[] #[.pointer (some ⟨w.heap.size, 0, none⟩)]) ∧ RX.Blk w' w.heap.size 9 #[.string s] ∧ w'.heap.size = w.heap.size + 1 ∧ Below w.heap.size w w' := by
  refine RX.enter Tryd.func93 rfl 4 rfl [(0, .string s)] rfl (by kernel_rfl) (fun R_ hR_ => ?_)
  refine X_seq ?_
  refine X_region ?_
  refine XL_run 1 [] [(1, .pointer (some ⟨w.heap.size, 0, none⟩))] (w.alloc (.cells #[.string s] 9)) [] (by kernel_rfl) trivial ?_
  obtain ⟨w_1, hw_5, hb_2, hk_3, hz_4⟩ := new_world w #[.string s] 9
  rw [hw_5]
  refine XL_run 1 [] [(1, .pointer (some ⟨w.heap.size, 0, none⟩))] w_1 [] (by kernel_rfl) trivial ?_
  refine XL_nil ?_
  refine X_seq ?_
  refine X_region ?_
  refine XL_run 2 [] [(2, .func (.func 143) #[] #[.pointer (some ⟨w.heap.size, 0, none⟩)])] w_1 [] (by kernel_rfl) trivial ?_
  refine XL_nil ?_
  refine X_ret ?_
  refine RX.ret_ok (P := Tryd.prog) (fn := Tryd.f93) (N := 4) (R := R_) [.func (.func 143) #[] #[.pointer (some ⟨w.heap.size, 0, none⟩)]] (by kernel_rfl) (hR_ _ _ ?_)
  exact ⟨rfl, hk_3, hz_4, hb_2⟩
theorem seach_seq (s : ByteArray) (w w0 : World) (g : Nat) (hs : s.size ≤ 100000000) (hb0 : Below w.heap.size w w0) (hk0 : RX.Blk w0 g 9 #[.string s]) (n0 : Nat) (hg : g < n0) (hn : w.heap.size ≤ n0) (hn0 : n0 ≤ w0.heap.size) (hT : Tabs w) :
    SeqStopsK Fence.wide 2 Tryd.prog 143 #[.pointer (some ⟨g, 0, none⟩)] (fun (x : Int × Int) => #[.int .i64 x.1, .int .i32 x.2]) (Below n0) (fun xs => xs = eaP s) (fun pre => pre = seqP pre.length (eaF s) ∧ pre.length ≤ (U.sc s).length) (U.sc s).length w0 := by
  intro lp J Jx W hW hJ hJx hY hJ0
  have hBW : Below w.heap.size w W := hb0.trans (bel_lo hW hb0.size)
  have hkW : RX.Blk W g 9 #[.string s] := Blk.below hk0 hW
  have hnW : n0 ≤ W.heap.size := Nat.le_trans hn0 hW.size
  have hscl := U.sc_le s
  refine callsIn_wide.2 ?_
  rw [show (#[Value.func (.yield lp) #[] #[]] ++ #[Value.pointer (some ⟨g, 0, none⟩)] : Array Value) = #[.func (.yield lp) #[] #[], .pointer (some ⟨g, 0, none⟩)] from rfl]
  refine RX.enter Tryd.func143 rfl 29 rfl [(0, .func (.yield lp) #[] #[]), (1, .pointer (some ⟨g, 0, none⟩))] rfl (by kernel_rfl) (fun R_ hR_ => ?_)
  refine X_seq ?_
  refine X_region ?_
  refine XL_run 1 [] [(0, .func (.yield lp) #[] #[]), (1, .pointer (some ⟨g, 0, none⟩)), (3, .int .i64 0)] W [] (by kernel_rfl) trivial ?_
  refine XL_nil ?_
  refine X_block ?_
  refine X_loop (ι := Nat) (fun n => [(0, .func (.yield lp) #[] #[]), (1, .pointer (some ⟨g, 0, none⟩)), (3, .int .i64 (eaO s n : Int))]) (fun n wl => n ≤ (U.sc s).length ∧ J (seqP n (eaF s)) wl ∧ RX.Blk wl g 9 #[.string s] ∧ n0 ≤ wl.heap.size ∧ Below w.heap.size w wl) (fun n => (U.sc s).length - n) 0 ⟨by omega, hJ0, hkW, hnW, hBW⟩ (by kernel_rfl) ?_
  rintro n wl ⟨hn_, hJ1, hkl, hnl, HB⟩
  have hle := ea_le s n
  refine X_seq ?_
  refine X_seq ?_
  refine X_region ?_
  refine XL_run 3 [(7, .load (.string s))] [(0, .func (.yield lp) #[] #[]), (1, .pointer (some ⟨g, 0, none⟩)), (3, .int .i64 (eaO s n : Int)), (6, .int .i64 (eaO s n : Int)), (8, .int .i64 (s.size : Int))] wl [LoadsAs Tryd.prog 9 (⟨g, 0, none⟩) (.string s) wl] (by kernel_rfl) ⟨loads1 rfl (Blk.cell hkl 0 _ rfl), trivial⟩ ?_
  by_cases c_1 : (eaO s n : Int) < (s.size : Int)
  · refine XL_run 1 [(9, .eq (.bool true))] [(0, .func (.yield lp) #[] #[]), (1, .pointer (some ⟨g, 0, none⟩)), (3, .int .i64 (eaO s n : Int)), (9, .bool true)] wl [Value.bool (decide ((eaO s n : Int) < (s.size : Int))) = Value.bool true] (by kernel_rfl) ⟨congrArg Value.bool (decide_eq_true (c_1)), trivial⟩ ?_
    refine XL_nil ?_
    refine X_cond true rfl ?_
    refine X_skip ?_
    refine X_block ?_
    refine X_seq ?_
    refine X_region ?_
    refine XL_run 3 [(11, .load (.string s)), (13, .as (.string (s.extract (eaO s n) s.size)))] [(0, .func (.yield lp) #[] #[]), (1, .pointer (some ⟨g, 0, none⟩)), (3, .int .i64 (eaO s n : Int)), (13, .string (s.extract (eaO s n) s.size))] wl [LoadsAs Tryd.prog 9 (⟨g, 0, none⟩) (.string s) wl, RunsAs Tryd.prog [(11, .string s), (12, .int .i64 (eaO s n : Int))] (Go.Op.slice 9 (Go.Operand.tmp 11) (some (Go.Operand.tmp 12)) none none) 9 (.string (s.extract (eaO s n) s.size)) wl] (by kernel_rfl) ⟨loads1 rfl (Blk.cell hkl 0 _ rfl), runs_slice_sl (h := (eaO s n : Int)) Tryd.underlying9 rfl rfl (by omega) (by omega), trivial⟩ ?_
    refine XL_call 87 rfl rfl rfl ent87 [.string (s.extract (eaO s n) s.size)] (by kernel_rfl) (next_any _ _ (hT.below HB)) ?_
    rintro e w_2 ⟨rfl, hb_3⟩; refine ⟨_, rfl, ?_⟩
    by_cases hlt : n < (U.sc s).length
    · obtain ⟨r, hr1, hr2, hr3, hr4⟩ := ea_step hlt
      have hel := U.enc_len r
      have hle2 := ea_le s (n + 1)
      have hrb : (r : Int) ≤ 1114111 := by unfold U.vr at hr2; omega
      have hef : eaF s n = ((eaO s n : Int), (r : Int)) := by unfold eaF; rw [hr1]
      rw [hr3]
      refine XL_run 5 [] [(0, .func (.yield lp) #[] #[]), (1, .pointer (some ⟨g, 0, none⟩)), (3, .int .i64 (eaO s n : Int)), (4, .int .i32 (r : Int)), (5, .int .i64 ((U.enc r).length : Int))] w_2 [] (by kernel_rfl) trivial ?_
      refine XL_nil ?_
      refine X_seq ?_
      refine X_seq ?_
      refine X_regionI ?_
      refine XLI_pre 6 (by kernel_rfl) (fun _ _ h_ => h_) ?_
      refine XL_run 1 [] [(0, .func (.yield lp) #[] #[]), (1, .pointer (some ⟨g, 0, none⟩)), (3, .int .i64 (eaO s n : Int)), (4, .int .i32 (r : Int)), (5, .int .i64 ((U.enc r).length : Int)), (17, .int .i64 ((U.enc r).length : Int))] w_2 [] (by kernel_rfl) trivial ?_
      by_cases c_4 : ((U.enc r).length : Int) = 0
      · refine XL_run 5 [(18, .eq (.bool true))] [(0, .func (.yield lp) #[] #[]), (1, .pointer (some ⟨g, 0, none⟩)), (3, .int .i64 (eaO s n : Int)), (5, .int .i64 ((U.enc r).length : Int)), (19, .bool true), (20, undef), (21, undef), (22, undef)] w_2 [Value.bool (((U.enc r).length : Int) == 0) = Value.bool true] (by kernel_rfl) ⟨congrArg Value.bool (beq_iff_eq.2 (c_4)), trivial⟩ ?_
        refine XL_nil ?_
        refine XLI_of (by kernel_rfl) (fun _ _ h_ => h_) ?_
        refine XL_run 3 [] [(0, .func (.yield lp) #[] #[]), (1, .pointer (some ⟨g, 0, none⟩)), (3, .int .i64 (eaO s n : Int)), (5, .int .i64 ((U.enc r).length : Int)), (25, .bool true)] w_2 [] (by kernel_rfl) trivial ?_
        refine XL_nil ?_
        refine X_cond true rfl ?_
        refine X_ret ?_
        refine RX.ret_ok (P := Tryd.prog) (fn := Tryd.f143) (N := 29) (R := R_) [] (by kernel_rfl) (hR_ _ _ ?_)
        obtain rfl := ea_out (s := s) (n := n) (by omega) hn_
        exact ⟨⟨_, rfl⟩, .inl ⟨_, rfl, (abides_below hJ hb_3 hJ1)⟩⟩
      · refine XL_run 5 [(18, .eq (.bool false))] [(0, .func (.yield lp) #[] #[]), (1, .pointer (some ⟨g, 0, none⟩)), (3, .int .i64 (eaO s n : Int)), (5, .int .i64 ((U.enc r).length : Int)), (19, .bool false), (20, .func (.yield lp) #[] #[]), (21, .int .i64 (eaO s n : Int)), (22, .int .i32 (r : Int))] w_2 [Value.bool (((U.enc r).length : Int) == 0) = Value.bool false] (by kernel_rfl) ⟨congrArg Value.bool (beq_eq_false_iff_ne.2 (c_4)), trivial⟩ ?_
        refine XL_nil ?_
        refine XLI_yield rfl rfl rfl rfl [.int .i64 (eaO s n : Int), .int .i32 (r : Int)] (by kernel_rfl) (by have h_ := hY (seqP n (eaF s)) (eaF s n) _ (abides_below hJ hb_3 hJ1) (by rw [seq_len]; omega); rw [hef] at h_; exact h_) ?_
        rintro e w_5 (⟨rfl, hJ2, hK2⟩ | ⟨rfl, hJ2⟩)
        · refine ⟨_, rfl, ?_⟩
          have hk2 : RX.Blk w_5 g 9 #[.string s] := bel_blk hK2 hg (Blk.below hkl hb_3)
          have hn2 : n0 ≤ w_5.heap.size := Nat.le_trans (Nat.le_trans hnl (hb_3).size) hK2.size
          have hB2 : Below w.heap.size w w_5 := (bt HB hb_3).trans (bel_lo2 hK2 hn)
          refine XLI_of (by kernel_rfl) (fun _ _ h_ => h_) ?_
          refine XL_run 2 [] [(0, .func (.yield lp) #[] #[]), (1, .pointer (some ⟨g, 0, none⟩)), (3, .int .i64 (eaO s n : Int)), (5, .int .i64 ((U.enc r).length : Int)), (25, .bool false)] w_5 [] (by kernel_rfl) trivial ?_
          refine XL_nil ?_
          refine X_cond false rfl ?_
          refine X_skip ?_
          refine X_region ?_
          refine XL_run 4 [(28, .eq (.int .i64 (eaO s (n + 1) : Int)))] [(0, .func (.yield lp) #[] #[]), (1, .pointer (some ⟨g, 0, none⟩)), (3, .int .i64 (eaO s (n + 1) : Int))] w_5 [Value.int .i64 (IntKind.i64.wrap ((eaO s n : Int) + ((U.enc r).length : Int))) = Value.int .i64 (eaO s (n + 1) : Int)] (by kernel_rfl) ⟨(by rw [show (eaO s n : Int) + ((U.enc r).length : Int) = (eaO s (n + 1) : Int) from by omega]; exact wr_i64 (by omega) (by omega)), trivial⟩ ?_
          refine XL_nil ?_
          refine ⟨(n + 1), by kernel_rfl, ?_, ?_⟩
          · have hj_ := hJ2
            rw [← hef, ← seq_succ] at hj_
            exact ⟨by omega, hj_, hk2, hn2, hB2⟩
          · (try dsimp only); omega
        · refine ⟨_, rfl, ?_⟩
          refine XLI_of (by kernel_rfl) (fun _ _ h_ => h_) ?_
          refine XL_run 2 [] [(0, .func (.yield lp) #[] #[]), (1, .pointer (some ⟨g, 0, none⟩)), (3, .int .i64 (eaO s n : Int)), (5, .int .i64 ((U.enc r).length : Int)), (25, .bool true)] w_5 [] (by kernel_rfl) trivial ?_
          refine XL_nil ?_
          refine X_cond true rfl ?_
          refine X_ret ?_
          refine RX.ret_ok (P := Tryd.prog) (fn := Tryd.f143) (N := 29) (R := R_) [] (by kernel_rfl) (hR_ _ _ ?_)
          refine ⟨⟨_, rfl⟩, .inr ⟨_, ⟨?_, ?_⟩, hJ2⟩⟩
          · rw [List.length_append, seq_len, List.length_singleton, seq_succ, hef]
          · rw [List.length_append, seq_len, List.length_singleton]; omega
    · obtain rfl : n = (U.sc s).length := by omega
      rw [ea_end]
      refine XL_run 5 [] [(0, .func (.yield lp) #[] #[]), (1, .pointer (some ⟨g, 0, none⟩)), (3, .int .i64 (eaO s (U.sc s).length : Int)), (4, .int .i32 0), (5, .int .i64 0)] w_2 [] (by kernel_rfl) trivial ?_
      refine XL_nil ?_
      refine X_seq ?_
      refine X_seq ?_
      refine X_regionI ?_
      refine XLI_pre 6 (by kernel_rfl) (fun _ _ h_ => h_) ?_
      refine XL_run 6 [] [(0, .func (.yield lp) #[] #[]), (1, .pointer (some ⟨g, 0, none⟩)), (3, .int .i64 (eaO s (U.sc s).length : Int)), (5, .int .i64 0), (19, .bool true), (20, undef), (21, undef), (22, undef)] w_2 [] (by kernel_rfl) trivial ?_
      refine XL_nil ?_
      refine XLI_of (by kernel_rfl) (fun _ _ h_ => h_) ?_
      refine XL_run 3 [] [(0, .func (.yield lp) #[] #[]), (1, .pointer (some ⟨g, 0, none⟩)), (3, .int .i64 (eaO s (U.sc s).length : Int)), (5, .int .i64 0), (25, .bool true)] w_2 [] (by kernel_rfl) trivial ?_
      refine XL_nil ?_
      refine X_cond true rfl ?_
      refine X_ret ?_
      refine RX.ret_ok (P := Tryd.prog) (fn := Tryd.f143) (N := 29) (R := R_) [] (by kernel_rfl) (hR_ _ _ ?_)
      exact ⟨⟨_, rfl⟩, .inl ⟨_, rfl, (abides_below hJ hb_3 hJ1)⟩⟩
  · refine XL_run 1 [(9, .eq (.bool false))] [(0, .func (.yield lp) #[] #[]), (1, .pointer (some ⟨g, 0, none⟩)), (3, .int .i64 (eaO s n : Int)), (9, .bool false)] wl [Value.bool (decide ((eaO s n : Int) < (s.size : Int))) = Value.bool false] (by kernel_rfl) ⟨congrArg Value.bool (decide_eq_false (c_1)), trivial⟩ ?_
    refine XL_nil ?_
    refine X_cond false rfl ?_
    refine X_exit ?_
    refine RX.end_ok (P := Tryd.prog) (fn := Tryd.f143) (N := 29) (R := R_) [] (by kernel_rfl) (hR_ _ _ ?_)
    obtain rfl := ea_out (s := s) (n := n) (by omega) hn_
    exact ⟨⟨_, rfl⟩, .inl ⟨_, rfl, hJ1⟩⟩
theorem ea_szl (s : ByteArray) : (U.scz s).length = (U.sc s).length := List.length_map ..
theorem ea_zero (s : ByteArray) : eaO s 0 = 0 := rfl
set_option maxHeartbeats 4000000 in
theorem leach_any (s : ByteArray) (A : Option Addr) (c : Nat) (stop : Int) (w : World) (hs : s.size ≤ 100000000) (hx : (Kd.int .i32).C w A (U.scz s).length (U.scz s)) (hT : Tabs w) : Calls Tryd.prog 23 #[.string s, .slice A (U.scz s).length c, .int .i64 stop] w fun e w' => e = .returned (.bool true) ∧ Below w.heap.size w w' := by
  have hpl : (U.scz s).length ≤ 9223372036854775807 := hx.2.1
  have hzl := ea_szl s
  have hscl := U.sc_le s
  refine RX.enterM Tryd.func23 rfl 68 rfl [(0, .string s), (1, .slice A ((U.scz s).length) c), (2, .int .i64 stop)] rfl (by kernel_rfl) (fun R_ hR_ => ?_)
  refine RX.X_mark0 rfl ?_
  refine X_seq ?_
  refine X_region ?_
  refine XL_run 1 [] [(0, .string s), (2, .int .i64 stop), (4, .pointer (some ⟨w.heap.size, 0, none⟩)), (1000000, encD [])] (w.alloc (.cells #[.slice A ((U.scz s).length) c] 30)) [] (by kernel_rfl) trivial ?_
  obtain ⟨w_1, hw_5, hb_2, hk_3, hz_4⟩ := new_world w #[.slice A ((U.scz s).length) c] 30
  rw [hw_5]
  refine XL_run 1 [] [(0, .string s), (4, .pointer (some ⟨w.heap.size, 0, none⟩)), (5, .pointer (some ⟨w_1.heap.size, 0, none⟩)), (1000000, encD [])] (w_1.alloc (.cells #[.int .i64 stop] 3)) [] (by kernel_rfl) trivial ?_
  obtain ⟨w_6, hw_10, hb_7, hk_8, hz_9⟩ := new_world w_1 #[.int .i64 stop] 3
  rw [hw_10]
  refine XL_run 1 [] [(0, .string s), (4, .pointer (some ⟨w.heap.size, 0, none⟩)), (5, .pointer (some ⟨w_1.heap.size, 0, none⟩)), (6, .pointer (some ⟨w_6.heap.size, 0, none⟩)), (1000000, encD [])] (w_6.alloc (.cells #[.bool false] 4)) [] (by kernel_rfl) trivial ?_
  obtain ⟨w_11, hw_15, hb_12, hk_13, hz_14⟩ := new_world w_6 #[.bool false] 4
  rw [hw_15]
  refine XL_nil ?_
  refine X_seq ?_
  refine X_region ?_
  refine XL_run 1 [] [(4, .pointer (some ⟨w.heap.size, 0, none⟩)), (5, .pointer (some ⟨w_1.heap.size, 0, none⟩)), (6, .pointer (some ⟨w_6.heap.size, 0, none⟩)), (13, .string s), (1000000, encD [])] w_11 [] (by kernel_rfl) trivial ?_
  refine XL_call 93 rfl rfl rfl ent93 [.string s] (by kernel_rfl) (seach_any s _) ?_
  rintro e w_16 ⟨rfl, hk_17, hz_18, hb_19⟩; refine ⟨_, rfl, ?_⟩
  refine XL_run 1 [] [(4, .pointer (some ⟨w.heap.size, 0, none⟩)), (5, .pointer (some ⟨w_1.heap.size, 0, none⟩)), (6, .pointer (some ⟨w_6.heap.size, 0, none⟩)), (7, .func (.func 143) #[] #[.pointer (some ⟨w_11.heap.size, 0, none⟩)]), (1000000, encD [])] w_16 [] (by kernel_rfl) trivial ?_
  refine XL_nil ?_
  refine X_seq ?_
  refine X_seq ?_
  refine X_region ?_
  refine XL_run 2 [] [(4, .pointer (some ⟨w.heap.size, 0, none⟩)), (5, .pointer (some ⟨w_1.heap.size, 0, none⟩)), (6, .pointer (some ⟨w_6.heap.size, 0, none⟩)), (7, .func (.func 143) #[] #[.pointer (some ⟨w_11.heap.size, 0, none⟩)]), (16, .bool false), (1000000, encD [])] w_16 [] (by kernel_rfl) trivial ?_
  refine XL_nil ?_
  refine X_cond false rfl ?_
  refine X_skip ?_
  refine X_seq ?_
  refine X_seq ?_
  refine X_region ?_
  refine XL_run 1 [] [(4, .pointer (some ⟨w.heap.size, 0, none⟩)), (5, .pointer (some ⟨w_1.heap.size, 0, none⟩)), (6, .pointer (some ⟨w_6.heap.size, 0, none⟩)), (7, .func (.func 143) #[] #[.pointer (some ⟨w_11.heap.size, 0, none⟩)]), (8, .pointer (some ⟨w_16.heap.size, 0, none⟩)), (1000000, encD [])] (w_16.alloc (.cells #[.int .i64 0] 3)) [] (by kernel_rfl) trivial ?_
  obtain ⟨w_20, hw_24, hb_21, hk_22, hz_23⟩ := new_world w_16 #[.int .i64 0] 3
  rw [hw_24]
  refine XL_store (v := .int .i64 0) rfl rfl rfl (by kernel_rfl) hk_22 0 [.int .i64 0] #[.int .i64 0] ⟨by kernel_rfl, rfl, by kernel_rfl⟩ ⟨by kernel_rfl, by kernel_rfl⟩ (Nat.le_of_ble_eq_true (by kernel_rfl)) (fun w_25 hg_26 hk_27 hz_28 => ?_)
  refine XL_nil ?_
  refine X_block ?_
  refine X_loop (ι := Nat × List Nat × Nat) (fun ⟨t, ds, g8⟩ => [(4, .pointer (some ⟨w.heap.size, 0, none⟩)), (5, .pointer (some ⟨w_1.heap.size, 0, none⟩)), (6, .pointer (some ⟨w_6.heap.size, 0, none⟩)), (7, .func (.func 143) #[] #[.pointer (some ⟨w_11.heap.size, 0, none⟩)]), (8, .pointer (some ⟨g8, 0, none⟩)), (1000000, encD ds)]) (fun ⟨t, ds, g8⟩ wl => t ≤ 2 ∧ RX.Blk wl g8 3 #[.int .i64 (t : Int)] ∧ Below w_25.heap.size w_25 wl ∧ Defs ds wl ∧ ds.Nodup ∧ (∀ D ∈ ds, w_25.heap.size ≤ D)) (fun ⟨t, ds, g8⟩ => 2 - t) (0, [], w_16.heap.size) ⟨by omega, hk_27, Below.refl _ _, fun _ h_ => (by cases h_), List.nodup_nil, fun _ h_ => (by cases h_)⟩ (by kernel_rfl) ?_
  rintro ⟨t, ds, g8⟩ wl ⟨ht2, hk8, HB, hds, hdn, hdge⟩
  refine X_seq ?_
  refine X_seq ?_
  refine X_region ?_
  refine XL_run 1 [(17, .load (.int .i64 (t : Int)))] [(4, .pointer (some ⟨w.heap.size, 0, none⟩)), (5, .pointer (some ⟨w_1.heap.size, 0, none⟩)), (6, .pointer (some ⟨w_6.heap.size, 0, none⟩)), (7, .func (.func 143) #[] #[.pointer (some ⟨w_11.heap.size, 0, none⟩)]), (8, .pointer (some ⟨g8, 0, none⟩)), (17, .int .i64 (t : Int)), (1000000, encD ds)] wl [LoadsAs Tryd.prog 3 (⟨g8, 0, none⟩) (.int .i64 (t : Int)) wl] (by kernel_rfl) ⟨loads1 rfl (Blk.cell hk8 0 _ rfl), trivial⟩ ?_
  by_cases c_29 : (t : Int) < 2
  · refine XL_run 1 [(18, .eq (.bool true))] [(4, .pointer (some ⟨w.heap.size, 0, none⟩)), (5, .pointer (some ⟨w_1.heap.size, 0, none⟩)), (6, .pointer (some ⟨w_6.heap.size, 0, none⟩)), (7, .func (.func 143) #[] #[.pointer (some ⟨w_11.heap.size, 0, none⟩)]), (8, .pointer (some ⟨g8, 0, none⟩)), (18, .bool true), (1000000, encD ds)] wl [Value.bool (decide ((t : Int) < 2)) = Value.bool true] (by kernel_rfl) ⟨congrArg Value.bool (decide_eq_true (c_29)), trivial⟩ ?_
    refine XL_nil ?_
    refine X_cond true rfl ?_
    refine X_skip ?_
    refine X_seq ?_
    refine X_block ?_
    refine X_seq ?_
    refine X_region ?_
    refine XL_run 1 [] [(4, .pointer (some ⟨w.heap.size, 0, none⟩)), (5, .pointer (some ⟨w_1.heap.size, 0, none⟩)), (6, .pointer (some ⟨w_6.heap.size, 0, none⟩)), (7, .func (.func 143) #[] #[.pointer (some ⟨w_11.heap.size, 0, none⟩)]), (8, .pointer (some ⟨g8, 0, none⟩)), (9, .pointer (some ⟨wl.heap.size, 0, none⟩)), (1000000, encD ds)] (wl.alloc (.cells #[.int .i64 0] 3)) [] (by kernel_rfl) trivial ?_
    obtain ⟨w_30, hw_34, hb_31, hk_32, hz_33⟩ := new_world wl #[.int .i64 0] 3
    rw [hw_34]
    refine XL_run 1 [] [(4, .pointer (some ⟨w.heap.size, 0, none⟩)), (5, .pointer (some ⟨w_1.heap.size, 0, none⟩)), (6, .pointer (some ⟨w_6.heap.size, 0, none⟩)), (7, .func (.func 143) #[] #[.pointer (some ⟨w_11.heap.size, 0, none⟩)]), (8, .pointer (some ⟨g8, 0, none⟩)), (9, .pointer (some ⟨wl.heap.size, 0, none⟩)), (10, .pointer (some ⟨w_30.heap.size, 0, none⟩)), (1000000, encD ds)] (w_30.alloc (.cells #[.int .i64 0] 3)) [] (by kernel_rfl) trivial ?_
    obtain ⟨w_35, hw_39, hb_36, hk_37, hz_38⟩ := new_world w_30 #[.int .i64 0] 3
    rw [hw_39]
    refine XL_store (v := .int .i64 0) rfl rfl rfl (by kernel_rfl) (Blk.below hk_32 hb_36) 0 [.int .i64 0] #[.int .i64 0] ⟨by kernel_rfl, rfl, by kernel_rfl⟩ ⟨by kernel_rfl, by kernel_rfl⟩ (Nat.le_of_ble_eq_true (by kernel_rfl)) (fun w_40 hg_41 hk_42 hz_43 => ?_)
    have hB_44 : Below w_1.heap.size w_1 wl := (bt (bg (bt (bt (bt hb_7 hb_12) hb_19) hb_21) hg_26 ((bt (bt hb_7 hb_12) hb_19)).size) HB)
    have hB_45 : Below w_6.heap.size w_6 wl := (bt (bg (bt (bt hb_12 hb_19) hb_21) hg_26 ((bt hb_12 hb_19)).size) HB)
    have hB_46 : Below w_11.heap.size w_11 wl := (bt (bg (bt hb_19 hb_21) hg_26 (hb_19).size) HB)
    have hne_47 : w_30.heap.size ≠ wl.heap.size := Nat.ne_of_gt (Nat.lt_of_lt_of_le (Blk.lt hk_32) (Nat.le_refl _))
    have hk_48 := Blk.other hk_37 hg_41 hne_47
    refine XL_store (v := .int .i64 0) rfl rfl rfl (by kernel_rfl) hk_48 0 [.int .i64 0] #[.int .i64 0] ⟨by kernel_rfl, rfl, by kernel_rfl⟩ ⟨by kernel_rfl, by kernel_rfl⟩ (Nat.le_of_ble_eq_true (by kernel_rfl)) (fun w_49 hg_50 hk_51 hz_52 => ?_)
    have hB_53 : Below w_16.heap.size w_16 w_30 := (bt (bt (bg hb_21 hg_26 (Nat.le_refl _)) HB) hb_31)
    have hne_54 : wl.heap.size ≠ w_30.heap.size := Nat.ne_of_lt (Nat.lt_of_lt_of_le (Blk.lt hk_32) (Nat.le_refl _))
    have hk_55 := Blk.other hk_42 hg_50 hne_54
    refine XL_nil ?_
    refine X_seq ?_
    refine X_seq ?_
    refine X_region ?_
    refine XL_run 1 [] [(4, .pointer (some ⟨w.heap.size, 0, none⟩)), (5, .pointer (some ⟨w_1.heap.size, 0, none⟩)), (6, .pointer (some ⟨w_6.heap.size, 0, none⟩)), (7, .func (.func 143) #[] #[.pointer (some ⟨w_11.heap.size, 0, none⟩)]), (8, .pointer (some ⟨g8, 0, none⟩)), (9, .pointer (some ⟨wl.heap.size, 0, none⟩)), (10, .pointer (some ⟨w_30.heap.size, 0, none⟩)), (21, .func (.func 143) #[] #[.pointer (some ⟨w_11.heap.size, 0, none⟩)]), (1000000, encD ds)] w_49 [] (by kernel_rfl) trivial ?_
    refine XL_nil ?_
    refine X_block ?_
    have hB_56 : Below wl.heap.size wl w_49 := (bg (bg (bt hb_31 hb_36) hg_41 (Nat.le_refl _)) hg_50 (hb_31).size)
    have hB_57 : Below w.heap.size w wl := (bt (bg (bt (bt (bt (bt hb_2 hb_7) hb_12) hb_19) hb_21) hg_26 ((bt (bt (bt hb_2 hb_7) hb_12) hb_19)).size) HB)
    have hB_58 : Below w.heap.size w w_49 := (bg (bg (bt (bt (bt (bg (bt (bt (bt (bt hb_2 hb_7) hb_12) hb_19) hb_21) hg_26 ((bt (bt (bt hb_2 hb_7) hb_12) hb_19)).size) HB) hb_31) hb_36) hg_41 (hB_57).size) hg_50 ((bt hB_57 hb_31)).size)
    have hB_59 : Below w_16.heap.size w_16 w_49 := (bg (bg (bt hB_53 hb_36) hg_41 ((bt (bg hb_21 hg_26 (Nat.le_refl _)) HB)).size) hg_50 (hB_53).size)
    refine X_rangeFunc (α := Int × Int) rfl ent143 (encs := fun x => #[.int .i64 x.1, .int .i32 x.2]) (seach_seq s w w_49 (w_11.heap.size) hs hB_58 (Blk.below hk_17 hB_59) wl.heap.size (Nat.lt_of_lt_of_le (Blk.lt hk_17) ((bt (bg hb_21 hg_26 (Nat.le_refl _)) HB)).size) (hB_57).size (hB_56).size hT) belowK_t (fun _ => Below.refl _ _) (belowK_b (hB_56).size) (Below.refl _ _) (fun _ => rfl) (by kernel_rfl) (fun pre W_ => pre = seqP pre.length (eaF s) ∧ pre.length ≤ (U.sc s).length ∧ RX.Blk W_ wl.heap.size 3 #[.int .i64 (pre.length : Int)] ∧ RX.Blk W_ w_30.heap.size 3 #[.int .i64 (eaO s pre.length : Int)] ∧ Below wl.heap.size wl W_) (fun c_ pre W_ => (c_ = Code.ret ∧ ¬ (pre = seqP pre.length (eaF s) ∧ pre.length ≤ (U.sc s).length)) ∨ (c_ = Code.exit 2 ∧ t = 0 ∧ stop < (pre.length : Int) ∧ pre = seqP pre.length (eaF s) ∧ pre.length ≤ (U.sc s).length ∧ RX.Blk W_ wl.heap.size 3 #[.int .i64 (pre.length : Int)] ∧ RX.Blk W_ w_30.heap.size 3 #[.int .i64 (eaO s pre.length : Int)] ∧ Below wl.heap.size wl W_)) (OwnFrom.and (RX.ownFrom_pure _) (OwnFrom.and (RX.ownFrom_pure _) (OwnFrom.and (ownFrom_blk (fun _ => wl.heap.size) 3 (fun pre => #[.int .i64 (List.length pre : Int)])) (OwnFrom.and (ownFrom_blk (fun _ => w_30.heap.size) 3 (fun pre => #[.int .i64 (eaO s (List.length pre) : Int)])) (ownFrom_below' wl (hB_56).size))))) (fun _ => ownFrom_or (RX.ownFrom_pure _) (OwnFrom.and (RX.ownFrom_pure _) (OwnFrom.and (RX.ownFrom_pure _) (OwnFrom.and (RX.ownFrom_pure _) (OwnFrom.and (RX.ownFrom_pure _) (OwnFrom.and (RX.ownFrom_pure _) (OwnFrom.and (ownFrom_blk (fun _ => wl.heap.size) 3 (fun pre => #[.int .i64 (List.length pre : Int)])) (OwnFrom.and (ownFrom_blk (fun _ => w_30.heap.size) 3 (fun pre => #[.int .i64 (eaO s (List.length pre) : Int)])) (ownFrom_below' wl (hB_56).size))))))))) ⟨rfl, Nat.zero_le _, hk_55, hk_51, hB_56⟩ (fun x => [(4, .pointer (some ⟨w.heap.size, 0, none⟩)), (5, .pointer (some ⟨w_1.heap.size, 0, none⟩)), (6, .pointer (some ⟨w_6.heap.size, 0, none⟩)), (7, .func (.func 143) #[] #[.pointer (some ⟨w_11.heap.size, 0, none⟩)]), (8, .pointer (some ⟨g8, 0, none⟩)), (9, .pointer (some ⟨wl.heap.size, 0, none⟩)), (10, .pointer (some ⟨w_30.heap.size, 0, none⟩)), (11, .int .i64 x.1), (12, .int .i32 x.2), (21, .func (.func 143) #[] #[.pointer (some ⟨w_11.heap.size, 0, none⟩)])]) ?_ ?_ ?_ ?_
    · intro lp_ x W_
      refine XI_keep [4, 5, 6, 7, 8, 9, 10, 21, 22, 23] [(4, .pointer (some ⟨w.heap.size, 0, none⟩)), (5, .pointer (some ⟨w_1.heap.size, 0, none⟩)), (6, .pointer (some ⟨w_6.heap.size, 0, none⟩)), (7, .func (.func 143) #[] #[.pointer (some ⟨w_11.heap.size, 0, none⟩)]), (8, .pointer (some ⟨g8, 0, none⟩)), (9, .pointer (some ⟨wl.heap.size, 0, none⟩)), (10, .pointer (some ⟨w_30.heap.size, 0, none⟩)), (21, .func (.func 143) #[] #[.pointer (some ⟨w_11.heap.size, 0, none⟩)]), (22, .int .i64 x.1), (23, .int .i32 x.2)] (by kernel_rfl) ?_
      refine XI_seq ?_
      refine XI_region (by kernel_rfl) (fun _ _ h_ => h_) ?_
      refine XL_run 1 [] [(4, .pointer (some ⟨w.heap.size, 0, none⟩)), (5, .pointer (some ⟨w_1.heap.size, 0, none⟩)), (6, .pointer (some ⟨w_6.heap.size, 0, none⟩)), (7, .func (.func 143) #[] #[.pointer (some ⟨w_11.heap.size, 0, none⟩)]), (8, .pointer (some ⟨g8, 0, none⟩)), (9, .pointer (some ⟨wl.heap.size, 0, none⟩)), (10, .pointer (some ⟨w_30.heap.size, 0, none⟩)), (11, .int .i64 x.1), (21, .func (.func 143) #[] #[.pointer (some ⟨w_11.heap.size, 0, none⟩)]), (22, .int .i64 x.1), (23, .int .i32 x.2)] W_ [] (by kernel_rfl) trivial ?_
      refine XL_nil ?_
      refine XI_region (by kernel_rfl) (fun _ _ h_ => h_) ?_
      refine XL_run 1 [] [(4, .pointer (some ⟨w.heap.size, 0, none⟩)), (5, .pointer (some ⟨w_1.heap.size, 0, none⟩)), (6, .pointer (some ⟨w_6.heap.size, 0, none⟩)), (7, .func (.func 143) #[] #[.pointer (some ⟨w_11.heap.size, 0, none⟩)]), (8, .pointer (some ⟨g8, 0, none⟩)), (9, .pointer (some ⟨wl.heap.size, 0, none⟩)), (10, .pointer (some ⟨w_30.heap.size, 0, none⟩)), (11, .int .i64 x.1), (12, .int .i32 x.2), (21, .func (.func 143) #[] #[.pointer (some ⟨w_11.heap.size, 0, none⟩)]), (22, .int .i64 x.1), (23, .int .i32 x.2)] W_ [] (by kernel_rfl) trivial ?_
      refine XL_nil ?_
      exact ⟨by kernel_rfl, rfl⟩
    · rintro lp_ pre x W_r hlp_ ⟨hp1, hp2, hk9, hk10, hBl⟩ hlen_
      refine XI_block ?_
      refine XI_seq ?_
      refine XI_seq ?_
      refine XI_region (by kernel_rfl) (fun _ _ h_ => h_) ?_
      refine XL_run 3 [(24, .load (.int .i64 (pre.length : Int))), (25, .load (.slice A ((U.scz s).length) c))] [(4, .pointer (some ⟨w.heap.size, 0, none⟩)), (5, .pointer (some ⟨w_1.heap.size, 0, none⟩)), (6, .pointer (some ⟨w_6.heap.size, 0, none⟩)), (7, .func (.func 143) #[] #[.pointer (some ⟨w_11.heap.size, 0, none⟩)]), (8, .pointer (some ⟨g8, 0, none⟩)), (9, .pointer (some ⟨wl.heap.size, 0, none⟩)), (10, .pointer (some ⟨w_30.heap.size, 0, none⟩)), (11, .int .i64 x.1), (12, .int .i32 x.2), (24, .int .i64 (pre.length : Int)), (26, .int .i64 ((U.scz s).length : Int))] W_r [LoadsAs Tryd.prog 3 (⟨wl.heap.size, 0, none⟩) (.int .i64 (pre.length : Int)) W_r, LoadsAs Tryd.prog 30 (⟨w.heap.size, 0, none⟩) (.slice A ((U.scz s).length) c) W_r] (by kernel_rfl) ⟨loads1 rfl (Blk.cell hk9 0 _ rfl), loads1 rfl (Blk.cell (Blk.below hk_3 (bt hB_44 hBl)) 0 _ rfl), trivial⟩ ?_
      by_cases c_60 : (pre.length : Int) ≥ ((U.scz s).length : Int)
      · refine XL_run 14 [(27, .eq (.bool true))] [(4, .pointer (some ⟨w.heap.size, 0, none⟩)), (5, .pointer (some ⟨w_1.heap.size, 0, none⟩)), (6, .pointer (some ⟨w_6.heap.size, 0, none⟩)), (7, .func (.func 143) #[] #[.pointer (some ⟨w_11.heap.size, 0, none⟩)]), (8, .pointer (some ⟨g8, 0, none⟩)), (9, .pointer (some ⟨wl.heap.size, 0, none⟩)), (10, .pointer (some ⟨w_30.heap.size, 0, none⟩)), (12, .int .i32 x.2), (40, .bool true)] W_r [Value.bool (decide ((pre.length : Int) ≥ ((U.scz s).length : Int))) = Value.bool true] (by kernel_rfl) ⟨congrArg Value.bool (decide_eq_true (c_60)), trivial⟩ ?_
        refine XL_nil ?_
        refine XI_cond true rfl ?_
        refine XI_seq ?_
        refine XI_region (by kernel_rfl) (fun _ _ h_ => h_) ?_
        refine XL_store (v := .bool false) rfl rfl rfl (by kernel_rfl) (Blk.below hk_13 (bt hB_46 hBl)) 0 [.bool false] #[.bool false] ⟨by kernel_rfl, rfl, by kernel_rfl⟩ ⟨by kernel_rfl, by kernel_rfl⟩ (Nat.le_of_ble_eq_true (by kernel_rfl)) (fun w_61 hg_62 hk_63 hz_64 => ?_)
        have hne_65 : w_11.heap.size ≠ w_6.heap.size := Nat.ne_of_gt (Nat.lt_of_lt_of_le (Blk.lt hk_13) (Nat.le_refl _))
        have hB_66 : Below w_16.heap.size w_16 W_r := (bt (bt (bg hb_21 hg_26 (Nat.le_refl _)) HB) hBl)
        have hk_67 := Blk.other (Blk.below hk_17 hB_66) hg_62 hne_65
        have hne_68 : w_16.heap.size ≠ w_6.heap.size := Nat.ne_of_gt (Nat.lt_of_lt_of_le (Blk.lt hk_13) (hb_19).size)
        have hk_69 := Blk.other (Blk.below hk_27 (bt HB hBl)) hg_62 hne_68
        have hne_70 : wl.heap.size ≠ w_6.heap.size := Nat.ne_of_gt (Nat.lt_of_lt_of_le (Blk.lt hk_13) (hB_46).size)
        have hk_71 := Blk.other hk9 hg_62 hne_70
        have hne_72 : w_30.heap.size ≠ w_6.heap.size := Nat.ne_of_gt (Nat.lt_of_lt_of_le (Blk.lt hk_13) ((bt hB_46 hb_31)).size)
        have hk_73 := Blk.other hk10 hg_62 hne_72
        refine XL_nil ?_
        refine XI_ret ?_
        exact ⟨(keeps_store (Blk.below hk_13 (bt hB_46 hBl)) hg_62), .inl ⟨rfl, seq_wrong hp1 (by rintro ⟨h1_, h2_⟩; have h3_ : x.1 = (eaO s pre.length : Int) ∧ x.2 = rd (U.scz s) (pre.length : Int) := (by rw [h2_]; exact ⟨rfl, rfl⟩); obtain ⟨h3_, h4_⟩ := h3_; first | omega | contradiction)⟩⟩
      · refine XL_run 5 [(27, .eq (.bool false)), (30, .load (.slice A ((U.scz s).length) c)), (31, .load (.int .i64 (pre.length : Int)))] [(4, .pointer (some ⟨w.heap.size, 0, none⟩)), (5, .pointer (some ⟨w_1.heap.size, 0, none⟩)), (6, .pointer (some ⟨w_6.heap.size, 0, none⟩)), (7, .func (.func 143) #[] #[.pointer (some ⟨w_11.heap.size, 0, none⟩)]), (8, .pointer (some ⟨g8, 0, none⟩)), (9, .pointer (some ⟨wl.heap.size, 0, none⟩)), (10, .pointer (some ⟨w_30.heap.size, 0, none⟩)), (11, .int .i64 x.1), (12, .int .i32 x.2), (28, .bool false), (29, .int .i32 x.2), (30, .slice A ((U.scz s).length) c), (31, .int .i64 (pre.length : Int))] W_r [Value.bool (decide ((pre.length : Int) ≥ ((U.scz s).length : Int))) = Value.bool false, LoadsAs Tryd.prog 30 (⟨w.heap.size, 0, none⟩) (.slice A ((U.scz s).length) c) W_r, LoadsAs Tryd.prog 3 (⟨wl.heap.size, 0, none⟩) (.int .i64 (pre.length : Int)) W_r] (by kernel_rfl) ⟨congrArg Value.bool (decide_eq_false (c_60)), loads1 rfl (Blk.cell (Blk.below hk_3 (bt hB_44 hBl)) 0 _ rfl), loads1 rfl (Blk.cell hk9 0 _ rfl), trivial⟩ ?_
        obtain ⟨ad_74, ha_75, hc_76⟩ := Kd.atI (Kd.C_below hx (bt hB_57 hBl)) (i := (pre.length : Int)) (by omega) (by omega)
        refine XL_run 2 [(32, .idx ad_74), (33, .load (.int .i32 (rd (U.scz s) (pre.length : Int))))] [(4, .pointer (some ⟨w.heap.size, 0, none⟩)), (5, .pointer (some ⟨w_1.heap.size, 0, none⟩)), (6, .pointer (some ⟨w_6.heap.size, 0, none⟩)), (7, .func (.func 143) #[] #[.pointer (some ⟨w_11.heap.size, 0, none⟩)]), (8, .pointer (some ⟨g8, 0, none⟩)), (9, .pointer (some ⟨wl.heap.size, 0, none⟩)), (10, .pointer (some ⟨w_30.heap.size, 0, none⟩)), (11, .int .i64 x.1), (12, .int .i32 x.2), (28, .bool false), (29, .int .i32 x.2), (33, .int .i32 (rd (U.scz s) (pre.length : Int)))] W_r [A = some ad_74, (0 : Int) ≤ (pre.length : Int), (pre.length : Int) < ((U.scz s).length : Int), LoadsAs Tryd.prog 21 (ad_74.add ((pre.length : Int).toNat * 1)) (.int .i32 (rd (U.scz s) (pre.length : Int))) W_r] (by kernel_rfl) ⟨ha_75, (by omega), (by omega), loads1 rfl (elem_cell hc_76 0 _ rfl), trivial⟩ ?_
        by_cases c_77 : x.2 = rd (U.scz s) (pre.length : Int)
        · refine XL_run 5 [(34, .eq (.bool false)), (38, .load (.int .i64 (eaO s pre.length : Int)))] [(4, .pointer (some ⟨w.heap.size, 0, none⟩)), (5, .pointer (some ⟨w_1.heap.size, 0, none⟩)), (6, .pointer (some ⟨w_6.heap.size, 0, none⟩)), (7, .func (.func 143) #[] #[.pointer (some ⟨w_11.heap.size, 0, none⟩)]), (8, .pointer (some ⟨g8, 0, none⟩)), (9, .pointer (some ⟨wl.heap.size, 0, none⟩)), (10, .pointer (some ⟨w_30.heap.size, 0, none⟩)), (12, .int .i32 x.2), (36, .bool false), (37, .int .i64 x.1), (38, .int .i64 (eaO s pre.length : Int))] W_r [Value.bool (x.2 != rd (U.scz s) (pre.length : Int)) = Value.bool false, LoadsAs Tryd.prog 3 (⟨w_30.heap.size, 0, none⟩) (.int .i64 (eaO s pre.length : Int)) W_r] (by kernel_rfl) ⟨congrArg Value.bool (bneF (c_77)), loads1 rfl (Blk.cell hk10 0 _ rfl), trivial⟩ ?_
          by_cases c_78 : x.1 = (eaO s pre.length : Int)
          · refine XL_run 2 [(39, .eq (.bool false))] [(4, .pointer (some ⟨w.heap.size, 0, none⟩)), (5, .pointer (some ⟨w_1.heap.size, 0, none⟩)), (6, .pointer (some ⟨w_6.heap.size, 0, none⟩)), (7, .func (.func 143) #[] #[.pointer (some ⟨w_11.heap.size, 0, none⟩)]), (8, .pointer (some ⟨g8, 0, none⟩)), (9, .pointer (some ⟨wl.heap.size, 0, none⟩)), (10, .pointer (some ⟨w_30.heap.size, 0, none⟩)), (12, .int .i32 x.2), (40, .bool false)] W_r [Value.bool (x.1 != (eaO s pre.length : Int)) = Value.bool false] (by kernel_rfl) ⟨congrArg Value.bool (bneF (c_78)), trivial⟩ ?_
            refine XL_nil ?_
            refine XI_cond false rfl ?_
            refine XI_skip ?_
            refine XI_seq ?_
            refine XI_grow (by kernel_rfl) (fun _ _ h_ => h_) [4] 5 #[false, false, false, false, false] (by kernel_rfl) (by kernel_rfl) (by kernel_rfl) (fun wd_79 hb_80 hh_81 => ?_)
            obtain ⟨r, hr1, hr2, hr3, hr4⟩ := ea_step (s := s) (n := pre.length) (by omega)
            have hw : U.widthP x.2 = (U.enc r).length := by rw [c_77, hr1]; exact widthP_pos hr2
            have hxe : x = eaF s pre.length := Prod.ext c_78 c_77
            have hpn : (pre ++ [x]).length = pre.length + 1 := by simp
            have hel := U.enc_len r
            have hle2 := ea_le s (pre.length + 1)
            refine XB_run (fuel' := 3) (Below.refl _ _) [0, 1] [(41, .load (.int .i64 (eaO s pre.length : Int)))] [.int .i64 (eaO s pre.length : Int), .int .i32 x.2] #[true, true, false, false, false] [(4, .pointer (some ⟨w.heap.size, 0, none⟩)), (5, .pointer (some ⟨w_1.heap.size, 0, none⟩)), (6, .pointer (some ⟨w_6.heap.size, 0, none⟩)), (7, .func (.func 143) #[] #[.pointer (some ⟨w_11.heap.size, 0, none⟩)]), (8, .pointer (some ⟨g8, 0, none⟩)), (9, .pointer (some ⟨wl.heap.size, 0, none⟩)), (10, .pointer (some ⟨w_30.heap.size, 0, none⟩)), (41, .int .i64 (eaO s pre.length : Int)), (42, .int .i32 x.2)] (fun w_ => [LoadsAs Tryd.prog 3 (⟨w_30.heap.size, 0, none⟩) (.int .i64 (eaO s pre.length : Int)) w_]) (fun _ _ _ _ h => h) (fun w_ => by kernel_rfl) rfl (fun w_ hC_ => ⟨loads1 rfl (Blk.cell (Blk.below hk10 (bt hb_80 hC_)) 0 _ rfl), trivial⟩) ?_
            refine XB_mid (fuel' := 2) 2 #[true, true, true, false, false] _ rfl (by kernel_rfl) (by kernel_rfl) rfl ?_
            refine XL_call 94 rfl rfl rfl ent94 [.int .i32 x.2] (by kernel_rfl) (refWidth_any x.2 _) ?_
            rintro e w_82 ⟨rfl, hb_83⟩; refine ⟨_, rfl, ?_⟩
            rw [hw]
            refine XL_nil ?_
            refine ⟨hb_83, ?_⟩
            refine XB_run (fuel' := 1) hb_83 [3] [(44, .eq (.int .i64 (eaO s (pre.length + 1) : Int)))] [.int .i64 (eaO s (pre.length + 1) : Int)] #[true, true, true, true, false] [(4, .pointer (some ⟨w.heap.size, 0, none⟩)), (5, .pointer (some ⟨w_1.heap.size, 0, none⟩)), (6, .pointer (some ⟨w_6.heap.size, 0, none⟩)), (7, .func (.func 143) #[] #[.pointer (some ⟨w_11.heap.size, 0, none⟩)]), (8, .pointer (some ⟨g8, 0, none⟩)), (9, .pointer (some ⟨wl.heap.size, 0, none⟩)), (10, .pointer (some ⟨w_30.heap.size, 0, none⟩)), (44, .int .i64 (eaO s (pre.length + 1) : Int))] (fun w_ => [Value.int .i64 (IntKind.i64.wrap ((eaO s pre.length : Int) + ((U.enc r).length : Int))) = Value.int .i64 (eaO s (pre.length + 1) : Int)]) (fun _ _ _ _ h => h) (fun w_ => by kernel_rfl) rfl (fun w_ hC_ => ⟨(by rw [show (eaO s pre.length : Int) + ((U.enc r).length : Int) = (eaO s (pre.length + 1) : Int) from by omega]; exact wr_i64 (by omega) (by omega)), trivial⟩) ?_
            refine XB_act (fuel' := 0) 4 #[true, true, true, true, true] _ rfl (by kernel_rfl) rfl (by kernel_rfl) rfl ?_
            refine XL_store (v := .int .i64 (eaO s (pre.length + 1) : Int)) rfl rfl rfl (by kernel_rfl) (Blk.below hk10 (bt hb_80 hb_83)) 0 [.int .i64 (eaO s (pre.length + 1) : Int)] #[.int .i64 (eaO s (pre.length + 1) : Int)] ⟨by kernel_rfl, rfl, by kernel_rfl⟩ ⟨by kernel_rfl, by kernel_rfl⟩ (Nat.le_of_ble_eq_true (by kernel_rfl)) (fun w_84 hg_85 hk_86 hz_87 => ?_)
            have hk_88 := Blk.other (Blk.below hk9 (bt hb_80 hb_83)) hg_85 hne_54
            refine XL_nil ?_
            refine XB_done (by kernel_rfl) ?_
            refine XI_seq ?_
            refine XI_region (by kernel_rfl) (fun _ _ h_ => h_) ?_
            refine XL_run 2 [(45, .load (.int .i64 (pre.length : Int))), (46, .eq (.int .i64 ((pre.length + 1 : Nat) : Int)))] [(4, .pointer (some ⟨w.heap.size, 0, none⟩)), (5, .pointer (some ⟨w_1.heap.size, 0, none⟩)), (6, .pointer (some ⟨w_6.heap.size, 0, none⟩)), (7, .func (.func 143) #[] #[.pointer (some ⟨w_11.heap.size, 0, none⟩)]), (8, .pointer (some ⟨g8, 0, none⟩)), (9, .pointer (some ⟨wl.heap.size, 0, none⟩)), (46, .int .i64 ((pre.length + 1 : Nat) : Int))] w_84 [LoadsAs Tryd.prog 3 (⟨wl.heap.size, 0, none⟩) (.int .i64 (pre.length : Int)) w_84, Value.int .i64 (IntKind.i64.wrap ((pre.length : Int) + 1)) = Value.int .i64 ((pre.length + 1 : Nat) : Int)] (by kernel_rfl) ⟨loads1 rfl (Blk.cell hk_88 0 _ rfl), (by rw [show (pre.length : Int) + 1 = ((pre.length + 1 : Nat) : Int) from by omega]; exact wr_i64 (by omega) (by omega)), trivial⟩ ?_
            refine XL_store (v := .int .i64 ((pre.length + 1 : Nat) : Int)) rfl rfl rfl (by kernel_rfl) hk_88 0 [.int .i64 ((pre.length + 1 : Nat) : Int)] #[.int .i64 ((pre.length + 1 : Nat) : Int)] ⟨by kernel_rfl, rfl, by kernel_rfl⟩ ⟨by kernel_rfl, by kernel_rfl⟩ (Nat.le_of_ble_eq_true (by kernel_rfl)) (fun w_89 hg_90 hk_91 hz_92 => ?_)
            have hk_93 := Blk.other hk_86 hg_90 hne_47
            refine XL_nil ?_
            refine XI_seq ?_
            refine XI_region (by kernel_rfl) (fun _ _ h_ => h_) ?_
            have hB_94 : Below wl.heap.size wl w_89 := (bg (bg (bt (bt hBl hb_80) hb_83) hg_85 (hb_31).size) hg_90 (Nat.le_refl _))
            refine XL_run 1 [(47, .load (.int .i64 (t : Int)))] [(4, .pointer (some ⟨w.heap.size, 0, none⟩)), (5, .pointer (some ⟨w_1.heap.size, 0, none⟩)), (6, .pointer (some ⟨w_6.heap.size, 0, none⟩)), (7, .func (.func 143) #[] #[.pointer (some ⟨w_11.heap.size, 0, none⟩)]), (8, .pointer (some ⟨g8, 0, none⟩)), (9, .pointer (some ⟨wl.heap.size, 0, none⟩)), (47, .int .i64 (t : Int))] w_89 [LoadsAs Tryd.prog 3 (⟨g8, 0, none⟩) (.int .i64 (t : Int)) w_89] (by kernel_rfl) ⟨loads1 rfl (Blk.cell (Blk.below hk8 hB_94) 0 _ rfl), trivial⟩ ?_
            by_cases c_95 : (t : Int) = 0
            · have hB_96 : Below w_6.heap.size w_6 w_89 := (bg (bg (bt (bt (bt hB_45 hBl) hb_80) hb_83) hg_85 ((bt hB_45 hb_31)).size) hg_90 (hB_45).size)
              refine XL_run 4 [(48, .eq (.bool true)), (50, .load (.int .i64 ((pre.length + 1 : Nat) : Int))), (51, .load (.int .i64 stop))] [(4, .pointer (some ⟨w.heap.size, 0, none⟩)), (5, .pointer (some ⟨w_1.heap.size, 0, none⟩)), (6, .pointer (some ⟨w_6.heap.size, 0, none⟩)), (7, .func (.func 143) #[] #[.pointer (some ⟨w_11.heap.size, 0, none⟩)]), (8, .pointer (some ⟨g8, 0, none⟩)), (9, .pointer (some ⟨wl.heap.size, 0, none⟩)), (49, .bool true), (50, .int .i64 ((pre.length + 1 : Nat) : Int)), (51, .int .i64 stop)] w_89 [Value.bool ((t : Int) == 0) = Value.bool true, LoadsAs Tryd.prog 3 (⟨wl.heap.size, 0, none⟩) (.int .i64 ((pre.length + 1 : Nat) : Int)) w_89, LoadsAs Tryd.prog 3 (⟨w_1.heap.size, 0, none⟩) (.int .i64 stop) w_89] (by kernel_rfl) ⟨congrArg Value.bool (beq_iff_eq.2 (c_95)), loads1 rfl (Blk.cell hk_91 0 _ rfl), loads1 rfl (Blk.cell (Blk.below hk_8 hB_96) 0 _ rfl), trivial⟩ ?_
              by_cases c_97 : ((pre.length + 1 : Nat) : Int) > stop
              · refine XL_run 2 [(52, .eq (.bool true))] [(4, .pointer (some ⟨w.heap.size, 0, none⟩)), (5, .pointer (some ⟨w_1.heap.size, 0, none⟩)), (6, .pointer (some ⟨w_6.heap.size, 0, none⟩)), (7, .func (.func 143) #[] #[.pointer (some ⟨w_11.heap.size, 0, none⟩)]), (8, .pointer (some ⟨g8, 0, none⟩)), (9, .pointer (some ⟨wl.heap.size, 0, none⟩)), (53, .bool true)] w_89 [Value.bool (decide (((pre.length + 1 : Nat) : Int) > stop)) = Value.bool true] (by kernel_rfl) ⟨congrArg Value.bool (decide_eq_true (c_97)), trivial⟩ ?_
                refine XL_nil ?_
                refine XI_cond true rfl ?_
                refine XI_exit ?_
                exact ⟨(KeepsFrom.trans (KeepsFrom.trans (KeepsFrom.trans (keeps_below hb_80) (keeps_below hb_83)) (keeps_store (Blk.below hk10 (bt hb_80 hb_83)) hg_85)) (keeps_store hk_88 hg_90)), .inr ⟨rfl, by omega, by rw [hpn]; omega, ⟨seq_right hp1 hxe, by rw [hpn]; omega, by rw [hpn]; exact hk_91, by rw [hpn]; exact hk_93, hB_94⟩⟩⟩
              · refine XL_run 2 [(52, .eq (.bool false))] [(4, .pointer (some ⟨w.heap.size, 0, none⟩)), (5, .pointer (some ⟨w_1.heap.size, 0, none⟩)), (6, .pointer (some ⟨w_6.heap.size, 0, none⟩)), (7, .func (.func 143) #[] #[.pointer (some ⟨w_11.heap.size, 0, none⟩)]), (8, .pointer (some ⟨g8, 0, none⟩)), (9, .pointer (some ⟨wl.heap.size, 0, none⟩)), (53, .bool false)] w_89 [Value.bool (decide (((pre.length + 1 : Nat) : Int) > stop)) = Value.bool false] (by kernel_rfl) ⟨congrArg Value.bool (decide_eq_false (c_97)), trivial⟩ ?_
                refine XL_nil ?_
                refine XI_cond false rfl ?_
                refine XI_skip ?_
                have hB_98 : Below wl.heap.size wl w_84 := (bg (bt (bt hBl hb_80) hb_83) hg_85 (hb_31).size)
                exact ⟨(KeepsFrom.trans (KeepsFrom.trans (KeepsFrom.trans (keeps_below hb_80) (keeps_below hb_83)) (keeps_store (Blk.below hk10 (bt hb_80 hb_83)) hg_85)) (keeps_store hk_88 hg_90)), (Below.trans (Below.trans (Below.trans (bel_lo hb_80 (hBl).size) (bel_lo hb_83 ((bt hBl hb_80)).size)) (bel_st hg_85 ((bt (bt hBl hb_80) hb_83)).size (hb_31).size)) (bel_st hg_90 (hB_98).size (Nat.le_refl _))), ⟨seq_right hp1 hxe, by rw [hpn]; omega, by rw [hpn]; exact hk_91, by rw [hpn]; exact hk_93, hB_94⟩⟩
            · refine XL_run 6 [(48, .eq (.bool false))] [(4, .pointer (some ⟨w.heap.size, 0, none⟩)), (5, .pointer (some ⟨w_1.heap.size, 0, none⟩)), (6, .pointer (some ⟨w_6.heap.size, 0, none⟩)), (7, .func (.func 143) #[] #[.pointer (some ⟨w_11.heap.size, 0, none⟩)]), (8, .pointer (some ⟨g8, 0, none⟩)), (9, .pointer (some ⟨wl.heap.size, 0, none⟩)), (53, .bool false)] w_89 [Value.bool ((t : Int) == 0) = Value.bool false] (by kernel_rfl) ⟨congrArg Value.bool (beq_eq_false_iff_ne.2 (c_95)), trivial⟩ ?_
              refine XL_nil ?_
              refine XI_cond false rfl ?_
              refine XI_skip ?_
              have hB_99 : Below wl.heap.size wl w_84 := (bg (bt (bt hBl hb_80) hb_83) hg_85 (hb_31).size)
              exact ⟨(KeepsFrom.trans (KeepsFrom.trans (KeepsFrom.trans (keeps_below hb_80) (keeps_below hb_83)) (keeps_store (Blk.below hk10 (bt hb_80 hb_83)) hg_85)) (keeps_store hk_88 hg_90)), (Below.trans (Below.trans (Below.trans (bel_lo hb_80 (hBl).size) (bel_lo hb_83 ((bt hBl hb_80)).size)) (bel_st hg_85 ((bt (bt hBl hb_80) hb_83)).size (hb_31).size)) (bel_st hg_90 (hB_99).size (Nat.le_refl _))), ⟨seq_right hp1 hxe, by rw [hpn]; omega, by rw [hpn]; exact hk_91, by rw [hpn]; exact hk_93, hB_94⟩⟩
          · refine XL_run 2 [(39, .eq (.bool true))] [(4, .pointer (some ⟨w.heap.size, 0, none⟩)), (5, .pointer (some ⟨w_1.heap.size, 0, none⟩)), (6, .pointer (some ⟨w_6.heap.size, 0, none⟩)), (7, .func (.func 143) #[] #[.pointer (some ⟨w_11.heap.size, 0, none⟩)]), (8, .pointer (some ⟨g8, 0, none⟩)), (9, .pointer (some ⟨wl.heap.size, 0, none⟩)), (10, .pointer (some ⟨w_30.heap.size, 0, none⟩)), (12, .int .i32 x.2), (40, .bool true)] W_r [Value.bool (x.1 != (eaO s pre.length : Int)) = Value.bool true] (by kernel_rfl) ⟨congrArg Value.bool (bneT (c_78)), trivial⟩ ?_
            refine XL_nil ?_
            refine XI_cond true rfl ?_
            refine XI_seq ?_
            refine XI_region (by kernel_rfl) (fun _ _ h_ => h_) ?_
            refine XL_store (v := .bool false) rfl rfl rfl (by kernel_rfl) (Blk.below hk_13 (bt hB_46 hBl)) 0 [.bool false] #[.bool false] ⟨by kernel_rfl, rfl, by kernel_rfl⟩ ⟨by kernel_rfl, by kernel_rfl⟩ (Nat.le_of_ble_eq_true (by kernel_rfl)) (fun w_100 hg_101 hk_102 hz_103 => ?_)
            have hne_104 : w_11.heap.size ≠ w_6.heap.size := Nat.ne_of_gt (Nat.lt_of_lt_of_le (Blk.lt hk_13) (Nat.le_refl _))
            have hB_105 : Below w_16.heap.size w_16 W_r := (bt (bt (bg hb_21 hg_26 (Nat.le_refl _)) HB) hBl)
            have hk_106 := Blk.other (Blk.below hk_17 hB_105) hg_101 hne_104
            have hne_107 : w_16.heap.size ≠ w_6.heap.size := Nat.ne_of_gt (Nat.lt_of_lt_of_le (Blk.lt hk_13) (hb_19).size)
            have hk_108 := Blk.other (Blk.below hk_27 (bt HB hBl)) hg_101 hne_107
            have hne_109 : wl.heap.size ≠ w_6.heap.size := Nat.ne_of_gt (Nat.lt_of_lt_of_le (Blk.lt hk_13) (hB_46).size)
            have hk_110 := Blk.other hk9 hg_101 hne_109
            have hne_111 : w_30.heap.size ≠ w_6.heap.size := Nat.ne_of_gt (Nat.lt_of_lt_of_le (Blk.lt hk_13) ((bt hB_46 hb_31)).size)
            have hk_112 := Blk.other hk10 hg_101 hne_111
            refine XL_nil ?_
            refine XI_ret ?_
            exact ⟨(keeps_store (Blk.below hk_13 (bt hB_46 hBl)) hg_101), .inl ⟨rfl, seq_wrong hp1 (by rintro ⟨h1_, h2_⟩; have h3_ : x.1 = (eaO s pre.length : Int) ∧ x.2 = rd (U.scz s) (pre.length : Int) := (by rw [h2_]; exact ⟨rfl, rfl⟩); obtain ⟨h3_, h4_⟩ := h3_; first | omega | contradiction)⟩⟩
        · refine XL_run 7 [(34, .eq (.bool true))] [(4, .pointer (some ⟨w.heap.size, 0, none⟩)), (5, .pointer (some ⟨w_1.heap.size, 0, none⟩)), (6, .pointer (some ⟨w_6.heap.size, 0, none⟩)), (7, .func (.func 143) #[] #[.pointer (some ⟨w_11.heap.size, 0, none⟩)]), (8, .pointer (some ⟨g8, 0, none⟩)), (9, .pointer (some ⟨wl.heap.size, 0, none⟩)), (10, .pointer (some ⟨w_30.heap.size, 0, none⟩)), (12, .int .i32 x.2), (40, .bool true)] W_r [Value.bool (x.2 != rd (U.scz s) (pre.length : Int)) = Value.bool true] (by kernel_rfl) ⟨congrArg Value.bool (bneT (c_77)), trivial⟩ ?_
          refine XL_nil ?_
          refine XI_cond true rfl ?_
          refine XI_seq ?_
          refine XI_region (by kernel_rfl) (fun _ _ h_ => h_) ?_
          refine XL_store (v := .bool false) rfl rfl rfl (by kernel_rfl) (Blk.below hk_13 (bt hB_46 hBl)) 0 [.bool false] #[.bool false] ⟨by kernel_rfl, rfl, by kernel_rfl⟩ ⟨by kernel_rfl, by kernel_rfl⟩ (Nat.le_of_ble_eq_true (by kernel_rfl)) (fun w_113 hg_114 hk_115 hz_116 => ?_)
          have hne_117 : w_11.heap.size ≠ w_6.heap.size := Nat.ne_of_gt (Nat.lt_of_lt_of_le (Blk.lt hk_13) (Nat.le_refl _))
          have hB_118 : Below w_16.heap.size w_16 W_r := (bt (bt (bg hb_21 hg_26 (Nat.le_refl _)) HB) hBl)
          have hk_119 := Blk.other (Blk.below hk_17 hB_118) hg_114 hne_117
          have hne_120 : w_16.heap.size ≠ w_6.heap.size := Nat.ne_of_gt (Nat.lt_of_lt_of_le (Blk.lt hk_13) (hb_19).size)
          have hk_121 := Blk.other (Blk.below hk_27 (bt HB hBl)) hg_114 hne_120
          have hne_122 : wl.heap.size ≠ w_6.heap.size := Nat.ne_of_gt (Nat.lt_of_lt_of_le (Blk.lt hk_13) (hB_46).size)
          have hk_123 := Blk.other hk9 hg_114 hne_122
          have hne_124 : w_30.heap.size ≠ w_6.heap.size := Nat.ne_of_gt (Nat.lt_of_lt_of_le (Blk.lt hk_13) ((bt hB_46 hb_31)).size)
          have hk_125 := Blk.other hk10 hg_114 hne_124
          refine XL_nil ?_
          refine XI_ret ?_
          exact ⟨(keeps_store (Blk.below hk_13 (bt hB_46 hBl)) hg_114), .inl ⟨rfl, seq_wrong hp1 (by rintro ⟨h1_, h2_⟩; have h3_ : x.1 = (eaO s pre.length : Int) ∧ x.2 = rd (U.scz s) (pre.length : Int) := (by rw [h2_]; exact ⟨rfl, rfl⟩); obtain ⟨h3_, h4_⟩ := h3_; first | omega | contradiction)⟩⟩
    · rintro D_127 pre w_126 hD_128 hS_129 ⟨hp1, hp2, hk9, hk10, hBl⟩ hK_130
      have hpe : pre.length = (U.sc s).length := by rw [hS_129, seq_len]
      have hds_131 : Defs (D_127 :: ds) w_126 := Defs.cons hK_130 (Defs.below hBl hds)
      have hlo_ := (hB_56).size
      have hdn_132 : (D_127 :: ds).Nodup := List.nodup_cons.2 ⟨fun hm_ => by have h_ := Defs.lt hds _ hm_; omega, hdn⟩
      have hlt_ := (HB).size
      have hdge_133 : ∀ D_ ∈ D_127 :: ds, w_25.heap.size ≤ D_ := fun D_ hm_ => (List.mem_cons.1 hm_).elim (fun e_ => by omega) (hdge D_)
      refine X_seq ?_
      refine X_region ?_
      refine XL_run 3 [(54, .load (.int .i64 (pre.length : Int))), (55, .load (.slice A ((U.scz s).length) c))] [(4, .pointer (some ⟨w.heap.size, 0, none⟩)), (5, .pointer (some ⟨w_1.heap.size, 0, none⟩)), (6, .pointer (some ⟨w_6.heap.size, 0, none⟩)), (7, .func (.func 143) #[] #[.pointer (some ⟨w_11.heap.size, 0, none⟩)]), (8, .pointer (some ⟨g8, 0, none⟩)), (9, .pointer (some ⟨wl.heap.size, 0, none⟩)), (54, .int .i64 (pre.length : Int)), (56, .int .i64 ((U.scz s).length : Int)), (1000000, encD (D_127 :: ds))] w_126 [LoadsAs Tryd.prog 3 (⟨wl.heap.size, 0, none⟩) (.int .i64 (pre.length : Int)) w_126, LoadsAs Tryd.prog 30 (⟨w.heap.size, 0, none⟩) (.slice A ((U.scz s).length) c) w_126] (by kernel_rfl) ⟨loads1 rfl (Blk.cell hk9 0 _ rfl), loads1 rfl (Blk.cell (Blk.below hk_3 (bt hB_44 hBl)) 0 _ rfl), trivial⟩ ?_
      by_cases c_134 : (pre.length : Int) < ((U.scz s).length : Int)
      · refine XL_run 3 [(57, .eq (.bool true)), (59, .load (.int .i64 (t : Int)))] [(4, .pointer (some ⟨w.heap.size, 0, none⟩)), (5, .pointer (some ⟨w_1.heap.size, 0, none⟩)), (6, .pointer (some ⟨w_6.heap.size, 0, none⟩)), (7, .func (.func 143) #[] #[.pointer (some ⟨w_11.heap.size, 0, none⟩)]), (8, .pointer (some ⟨g8, 0, none⟩)), (9, .pointer (some ⟨wl.heap.size, 0, none⟩)), (58, .bool true), (59, .int .i64 (t : Int)), (1000000, encD (D_127 :: ds))] w_126 [Value.bool (decide ((pre.length : Int) < ((U.scz s).length : Int))) = Value.bool true, LoadsAs Tryd.prog 3 (⟨g8, 0, none⟩) (.int .i64 (t : Int)) w_126] (by kernel_rfl) ⟨congrArg Value.bool (decide_eq_true (c_134)), loads1 rfl (Blk.cell (Blk.below hk8 hBl) 0 _ rfl), trivial⟩ ?_
        by_cases c_135 : (t : Int) = 1
        · refine XL_run 7 [(60, .eq (.bool true))] [(4, .pointer (some ⟨w.heap.size, 0, none⟩)), (5, .pointer (some ⟨w_1.heap.size, 0, none⟩)), (6, .pointer (some ⟨w_6.heap.size, 0, none⟩)), (7, .func (.func 143) #[] #[.pointer (some ⟨w_11.heap.size, 0, none⟩)]), (8, .pointer (some ⟨g8, 0, none⟩)), (66, .bool true), (1000000, encD (D_127 :: ds))] w_126 [Value.bool ((t : Int) == 1) = Value.bool true] (by kernel_rfl) ⟨congrArg Value.bool (beq_iff_eq.2 (c_135)), trivial⟩ ?_
          refine XL_nil ?_
          refine X_cond true rfl ?_
          refine X_seq ?_
          refine X_region ?_
          refine XL_store (v := .bool false) rfl rfl rfl (by kernel_rfl) (Blk.below hk_13 (bt hB_46 hBl)) 0 [.bool false] #[.bool false] ⟨by kernel_rfl, rfl, by kernel_rfl⟩ ⟨by kernel_rfl, by kernel_rfl⟩ (Nat.le_of_ble_eq_true (by kernel_rfl)) (fun w_136 hg_137 hk_138 hz_139 => ?_)
          have hne_140 : w_11.heap.size ≠ w_6.heap.size := Nat.ne_of_gt (Nat.lt_of_lt_of_le (Blk.lt hk_13) (Nat.le_refl _))
          have hB_141 : Below w_16.heap.size w_16 w_126 := (bt (bt (bg hb_21 hg_26 (Nat.le_refl _)) HB) hBl)
          have hk_142 := Blk.other (Blk.below hk_17 hB_141) hg_137 hne_140
          have hne_143 : w_16.heap.size ≠ w_6.heap.size := Nat.ne_of_gt (Nat.lt_of_lt_of_le (Blk.lt hk_13) (hb_19).size)
          have hk_144 := Blk.other (Blk.below hk_27 (bt HB hBl)) hg_137 hne_143
          have hne_145 : wl.heap.size ≠ w_6.heap.size := Nat.ne_of_gt (Nat.lt_of_lt_of_le (Blk.lt hk_13) (hB_46).size)
          have hk_146 := Blk.other hk9 hg_137 hne_145
          have hne_147 : w_30.heap.size ≠ w_6.heap.size := Nat.ne_of_gt (Nat.lt_of_lt_of_le (Blk.lt hk_13) ((bt hB_46 hb_31)).size)
          have hk_148 := Blk.other hk10 hg_137 hne_147
          refine XL_nil ?_
          refine X_ret ?_
          refine RX.retM_cell (P := Tryd.prog) (fn := Tryd.f23) (N := 68) (R := R_) (c := 6) (t := 4) (p := ⟨w_6.heap.size, 0, none⟩) (v := .bool false) (ds := (D_127 :: ds)) (dsOf_enc (by kernel_rfl)) hdn_132 (Defs.store (Blk.below hk_13 (bt hB_46 hBl)) hg_137 hds_131) rfl rfl hk_138 (fun w_ hb_ => loads1 rfl (Blk.cell hb_ 0 _ rfl)) (fun w_ ho_ => hR_ _ _ ?_)
          exfalso; omega
        · refine XL_run 4 [(60, .eq (.bool false)), (62, .load (.int .i64 (pre.length : Int))), (63, .load (.int .i64 stop))] [(4, .pointer (some ⟨w.heap.size, 0, none⟩)), (5, .pointer (some ⟨w_1.heap.size, 0, none⟩)), (6, .pointer (some ⟨w_6.heap.size, 0, none⟩)), (7, .func (.func 143) #[] #[.pointer (some ⟨w_11.heap.size, 0, none⟩)]), (8, .pointer (some ⟨g8, 0, none⟩)), (58, .bool true), (61, .bool false), (62, .int .i64 (pre.length : Int)), (63, .int .i64 stop), (1000000, encD (D_127 :: ds))] w_126 [Value.bool ((t : Int) == 1) = Value.bool false, LoadsAs Tryd.prog 3 (⟨wl.heap.size, 0, none⟩) (.int .i64 (pre.length : Int)) w_126, LoadsAs Tryd.prog 3 (⟨w_1.heap.size, 0, none⟩) (.int .i64 stop) w_126] (by kernel_rfl) ⟨congrArg Value.bool (beq_eq_false_iff_ne.2 (c_135)), loads1 rfl (Blk.cell hk9 0 _ rfl), loads1 rfl (Blk.cell (Blk.below hk_8 (bt hB_45 hBl)) 0 _ rfl), trivial⟩ ?_
          by_cases c_149 : (pre.length : Int) ≤ stop
          · refine XL_run 3 [(64, .eq (.bool true))] [(4, .pointer (some ⟨w.heap.size, 0, none⟩)), (5, .pointer (some ⟨w_1.heap.size, 0, none⟩)), (6, .pointer (some ⟨w_6.heap.size, 0, none⟩)), (7, .func (.func 143) #[] #[.pointer (some ⟨w_11.heap.size, 0, none⟩)]), (8, .pointer (some ⟨g8, 0, none⟩)), (66, .bool true), (1000000, encD (D_127 :: ds))] w_126 [Value.bool (decide ((pre.length : Int) ≤ stop)) = Value.bool true] (by kernel_rfl) ⟨congrArg Value.bool (decide_eq_true (c_149)), trivial⟩ ?_
            refine XL_nil ?_
            refine X_cond true rfl ?_
            refine X_seq ?_
            refine X_region ?_
            refine XL_store (v := .bool false) rfl rfl rfl (by kernel_rfl) (Blk.below hk_13 (bt hB_46 hBl)) 0 [.bool false] #[.bool false] ⟨by kernel_rfl, rfl, by kernel_rfl⟩ ⟨by kernel_rfl, by kernel_rfl⟩ (Nat.le_of_ble_eq_true (by kernel_rfl)) (fun w_150 hg_151 hk_152 hz_153 => ?_)
            have hne_154 : w_11.heap.size ≠ w_6.heap.size := Nat.ne_of_gt (Nat.lt_of_lt_of_le (Blk.lt hk_13) (Nat.le_refl _))
            have hB_155 : Below w_16.heap.size w_16 w_126 := (bt (bt (bg hb_21 hg_26 (Nat.le_refl _)) HB) hBl)
            have hk_156 := Blk.other (Blk.below hk_17 hB_155) hg_151 hne_154
            have hne_157 : w_16.heap.size ≠ w_6.heap.size := Nat.ne_of_gt (Nat.lt_of_lt_of_le (Blk.lt hk_13) (hb_19).size)
            have hk_158 := Blk.other (Blk.below hk_27 (bt HB hBl)) hg_151 hne_157
            have hne_159 : wl.heap.size ≠ w_6.heap.size := Nat.ne_of_gt (Nat.lt_of_lt_of_le (Blk.lt hk_13) (hB_46).size)
            have hk_160 := Blk.other hk9 hg_151 hne_159
            have hne_161 : w_30.heap.size ≠ w_6.heap.size := Nat.ne_of_gt (Nat.lt_of_lt_of_le (Blk.lt hk_13) ((bt hB_46 hb_31)).size)
            have hk_162 := Blk.other hk10 hg_151 hne_161
            refine XL_nil ?_
            refine X_ret ?_
            refine RX.retM_cell (P := Tryd.prog) (fn := Tryd.f23) (N := 68) (R := R_) (c := 6) (t := 4) (p := ⟨w_6.heap.size, 0, none⟩) (v := .bool false) (ds := (D_127 :: ds)) (dsOf_enc (by kernel_rfl)) hdn_132 (Defs.store (Blk.below hk_13 (bt hB_46 hBl)) hg_151 hds_131) rfl rfl hk_152 (fun w_ hb_ => loads1 rfl (Blk.cell hb_ 0 _ rfl)) (fun w_ ho_ => hR_ _ _ ?_)
            exfalso; omega
          · refine XL_run 3 [(64, .eq (.bool false))] [(4, .pointer (some ⟨w.heap.size, 0, none⟩)), (5, .pointer (some ⟨w_1.heap.size, 0, none⟩)), (6, .pointer (some ⟨w_6.heap.size, 0, none⟩)), (7, .func (.func 143) #[] #[.pointer (some ⟨w_11.heap.size, 0, none⟩)]), (8, .pointer (some ⟨g8, 0, none⟩)), (66, .bool false), (1000000, encD (D_127 :: ds))] w_126 [Value.bool (decide ((pre.length : Int) ≤ stop)) = Value.bool false] (by kernel_rfl) ⟨congrArg Value.bool (decide_eq_false (c_149)), trivial⟩ ?_
            refine XL_nil ?_
            refine X_cond false rfl ?_
            refine X_skip ?_
            refine X_seq ?_
            refine X_seq ?_
            refine X_region ?_
            refine XL_run 1 [(67, .load (.int .i64 (t : Int)))] [(4, .pointer (some ⟨w.heap.size, 0, none⟩)), (5, .pointer (some ⟨w_1.heap.size, 0, none⟩)), (6, .pointer (some ⟨w_6.heap.size, 0, none⟩)), (7, .func (.func 143) #[] #[.pointer (some ⟨w_11.heap.size, 0, none⟩)]), (67, .int .i64 (t : Int)), (1000000, encD (D_127 :: ds))] w_126 [LoadsAs Tryd.prog 3 (⟨g8, 0, none⟩) (.int .i64 (t : Int)) w_126] (by kernel_rfl) ⟨loads1 rfl (Blk.cell (Blk.below hk8 hBl) 0 _ rfl), trivial⟩ ?_
            refine XL_nil ?_
            refine X_region ?_
            refine XL_run 1 [] [(4, .pointer (some ⟨w.heap.size, 0, none⟩)), (5, .pointer (some ⟨w_1.heap.size, 0, none⟩)), (6, .pointer (some ⟨w_6.heap.size, 0, none⟩)), (7, .func (.func 143) #[] #[.pointer (some ⟨w_11.heap.size, 0, none⟩)]), (8, .pointer (some ⟨w_126.heap.size, 0, none⟩)), (67, .int .i64 (t : Int)), (1000000, encD (D_127 :: ds))] (w_126.alloc (.cells #[.int .i64 0] 3)) [] (by kernel_rfl) trivial ?_
            obtain ⟨w_163, hw_167, hb_164, hk_165, hz_166⟩ := new_world w_126 #[.int .i64 0] 3
            rw [hw_167]
            refine XL_store (v := .int .i64 (t : Int)) rfl rfl rfl (by kernel_rfl) hk_165 0 [.int .i64 (t : Int)] #[.int .i64 (t : Int)] ⟨by kernel_rfl, rfl, by kernel_rfl⟩ ⟨by kernel_rfl, by kernel_rfl⟩ (Nat.le_of_ble_eq_true (by kernel_rfl)) (fun w_168 hg_169 hk_170 hz_171 => ?_)
            have hB_172 : Below w_16.heap.size w_16 w_126 := (bt (bt (bg hb_21 hg_26 (Nat.le_refl _)) HB) hBl)
            refine XL_nil ?_
            refine X_region ?_
            refine XL_run 2 [(19, .load (.int .i64 (t : Int))), (20, .eq (.int .i64 ((t : Int) + 1)))] [(4, .pointer (some ⟨w.heap.size, 0, none⟩)), (5, .pointer (some ⟨w_1.heap.size, 0, none⟩)), (6, .pointer (some ⟨w_6.heap.size, 0, none⟩)), (7, .func (.func 143) #[] #[.pointer (some ⟨w_11.heap.size, 0, none⟩)]), (8, .pointer (some ⟨w_126.heap.size, 0, none⟩)), (20, .int .i64 ((t : Int) + 1)), (1000000, encD (D_127 :: ds))] w_168 [LoadsAs Tryd.prog 3 (⟨w_126.heap.size, 0, none⟩) (.int .i64 (t : Int)) w_168, Value.int .i64 (IntKind.i64.wrap ((t : Int) + 1)) = Value.int .i64 ((t : Int) + 1)] (by kernel_rfl) ⟨loads1 rfl (Blk.cell hk_170 0 _ rfl), wr_i64 (by omega) (by omega), trivial⟩ ?_
            refine XL_store (v := .int .i64 ((t : Int) + 1)) rfl rfl rfl (by kernel_rfl) hk_170 0 [.int .i64 ((t : Int) + 1)] #[.int .i64 ((t : Int) + 1)] ⟨by kernel_rfl, rfl, by kernel_rfl⟩ ⟨by kernel_rfl, by kernel_rfl⟩ (Nat.le_of_ble_eq_true (by kernel_rfl)) (fun w_173 hg_174 hk_175 hz_176 => ?_)
            refine XL_nil ?_
            have hB_177 : Below w_25.heap.size w_25 w_173 := (bg (bg (bt (bt HB hBl) hb_164) hg_169 ((bt HB hBl)).size) hg_174 ((bt HB hBl)).size)
            refine ⟨(t + 1, (D_127 :: ds), w_126.heap.size), by kernel_rfl, ?_, ?_⟩
            · have hx8 := hk_175
              exact ⟨by omega, hx8, hB_177, (Defs.store hk_170 hg_174 (Defs.store hk_165 hg_169 (Defs.below hb_164 hds_131))), hdn_132, hdge_133⟩
            · (try dsimp only); omega
      · refine XL_run 10 [(57, .eq (.bool false))] [(4, .pointer (some ⟨w.heap.size, 0, none⟩)), (5, .pointer (some ⟨w_1.heap.size, 0, none⟩)), (6, .pointer (some ⟨w_6.heap.size, 0, none⟩)), (7, .func (.func 143) #[] #[.pointer (some ⟨w_11.heap.size, 0, none⟩)]), (8, .pointer (some ⟨g8, 0, none⟩)), (66, .bool false), (1000000, encD (D_127 :: ds))] w_126 [Value.bool (decide ((pre.length : Int) < ((U.scz s).length : Int))) = Value.bool false] (by kernel_rfl) ⟨congrArg Value.bool (decide_eq_false (c_134)), trivial⟩ ?_
        refine XL_nil ?_
        refine X_cond false rfl ?_
        refine X_skip ?_
        refine X_seq ?_
        refine X_seq ?_
        refine X_region ?_
        refine XL_run 1 [(67, .load (.int .i64 (t : Int)))] [(4, .pointer (some ⟨w.heap.size, 0, none⟩)), (5, .pointer (some ⟨w_1.heap.size, 0, none⟩)), (6, .pointer (some ⟨w_6.heap.size, 0, none⟩)), (7, .func (.func 143) #[] #[.pointer (some ⟨w_11.heap.size, 0, none⟩)]), (67, .int .i64 (t : Int)), (1000000, encD (D_127 :: ds))] w_126 [LoadsAs Tryd.prog 3 (⟨g8, 0, none⟩) (.int .i64 (t : Int)) w_126] (by kernel_rfl) ⟨loads1 rfl (Blk.cell (Blk.below hk8 hBl) 0 _ rfl), trivial⟩ ?_
        refine XL_nil ?_
        refine X_region ?_
        refine XL_run 1 [] [(4, .pointer (some ⟨w.heap.size, 0, none⟩)), (5, .pointer (some ⟨w_1.heap.size, 0, none⟩)), (6, .pointer (some ⟨w_6.heap.size, 0, none⟩)), (7, .func (.func 143) #[] #[.pointer (some ⟨w_11.heap.size, 0, none⟩)]), (8, .pointer (some ⟨w_126.heap.size, 0, none⟩)), (67, .int .i64 (t : Int)), (1000000, encD (D_127 :: ds))] (w_126.alloc (.cells #[.int .i64 0] 3)) [] (by kernel_rfl) trivial ?_
        obtain ⟨w_178, hw_182, hb_179, hk_180, hz_181⟩ := new_world w_126 #[.int .i64 0] 3
        rw [hw_182]
        refine XL_store (v := .int .i64 (t : Int)) rfl rfl rfl (by kernel_rfl) hk_180 0 [.int .i64 (t : Int)] #[.int .i64 (t : Int)] ⟨by kernel_rfl, rfl, by kernel_rfl⟩ ⟨by kernel_rfl, by kernel_rfl⟩ (Nat.le_of_ble_eq_true (by kernel_rfl)) (fun w_183 hg_184 hk_185 hz_186 => ?_)
        have hB_187 : Below w_16.heap.size w_16 w_126 := (bt (bt (bg hb_21 hg_26 (Nat.le_refl _)) HB) hBl)
        refine XL_nil ?_
        refine X_region ?_
        refine XL_run 2 [(19, .load (.int .i64 (t : Int))), (20, .eq (.int .i64 ((t : Int) + 1)))] [(4, .pointer (some ⟨w.heap.size, 0, none⟩)), (5, .pointer (some ⟨w_1.heap.size, 0, none⟩)), (6, .pointer (some ⟨w_6.heap.size, 0, none⟩)), (7, .func (.func 143) #[] #[.pointer (some ⟨w_11.heap.size, 0, none⟩)]), (8, .pointer (some ⟨w_126.heap.size, 0, none⟩)), (20, .int .i64 ((t : Int) + 1)), (1000000, encD (D_127 :: ds))] w_183 [LoadsAs Tryd.prog 3 (⟨w_126.heap.size, 0, none⟩) (.int .i64 (t : Int)) w_183, Value.int .i64 (IntKind.i64.wrap ((t : Int) + 1)) = Value.int .i64 ((t : Int) + 1)] (by kernel_rfl) ⟨loads1 rfl (Blk.cell hk_185 0 _ rfl), wr_i64 (by omega) (by omega), trivial⟩ ?_
        refine XL_store (v := .int .i64 ((t : Int) + 1)) rfl rfl rfl (by kernel_rfl) hk_185 0 [.int .i64 ((t : Int) + 1)] #[.int .i64 ((t : Int) + 1)] ⟨by kernel_rfl, rfl, by kernel_rfl⟩ ⟨by kernel_rfl, by kernel_rfl⟩ (Nat.le_of_ble_eq_true (by kernel_rfl)) (fun w_188 hg_189 hk_190 hz_191 => ?_)
        refine XL_nil ?_
        have hB_192 : Below w_25.heap.size w_25 w_188 := (bg (bg (bt (bt HB hBl) hb_179) hg_184 ((bt HB hBl)).size) hg_189 ((bt HB hBl)).size)
        refine ⟨(t + 1, (D_127 :: ds), w_126.heap.size), by kernel_rfl, ?_, ?_⟩
        · have hx8 := hk_190
          exact ⟨by omega, hx8, hB_192, (Defs.store hk_185 hg_189 (Defs.store hk_180 hg_184 (Defs.below hb_179 hds_131))), hdn_132, hdge_133⟩
        · (try dsimp only); omega
    · rintro D_194 c_ pre w_193 hD_195 hS_196 hix_ hK_197
      rcases hix_ with ⟨rfl, hno_⟩ | ⟨rfl, ht0, hst_, hp1, hp2, hk9, hk10, hBl⟩
      · exact absurd hS_196 hno_
      · have hq_ := hp2
        have hds_198 : Defs (D_194 :: ds) w_193 := Defs.cons hK_197 (Defs.below hBl hds)
        have hlo_ := (hB_56).size
        have hdn_199 : (D_194 :: ds).Nodup := List.nodup_cons.2 ⟨fun hm_ => by have h_ := Defs.lt hds _ hm_; omega, hdn⟩
        have hlt_ := (HB).size
        have hdge_200 : ∀ D_ ∈ D_194 :: ds, w_25.heap.size ≤ D_ := fun D_ hm_ => (List.mem_cons.1 hm_).elim (fun e_ => by omega) (hdge D_)
        refine X_exit ?_
        refine X_seq ?_
        refine X_region ?_
        refine XL_run 3 [(54, .load (.int .i64 (pre.length : Int))), (55, .load (.slice A ((U.scz s).length) c))] [(4, .pointer (some ⟨w.heap.size, 0, none⟩)), (5, .pointer (some ⟨w_1.heap.size, 0, none⟩)), (6, .pointer (some ⟨w_6.heap.size, 0, none⟩)), (7, .func (.func 143) #[] #[.pointer (some ⟨w_11.heap.size, 0, none⟩)]), (8, .pointer (some ⟨g8, 0, none⟩)), (9, .pointer (some ⟨wl.heap.size, 0, none⟩)), (54, .int .i64 (pre.length : Int)), (56, .int .i64 ((U.scz s).length : Int)), (1000000, encD (D_194 :: ds))] w_193 [LoadsAs Tryd.prog 3 (⟨wl.heap.size, 0, none⟩) (.int .i64 (pre.length : Int)) w_193, LoadsAs Tryd.prog 30 (⟨w.heap.size, 0, none⟩) (.slice A ((U.scz s).length) c) w_193] (by kernel_rfl) ⟨loads1 rfl (Blk.cell hk9 0 _ rfl), loads1 rfl (Blk.cell (Blk.below hk_3 (bt hB_44 hBl)) 0 _ rfl), trivial⟩ ?_
        by_cases c_201 : (pre.length : Int) < ((U.scz s).length : Int)
        · refine XL_run 3 [(57, .eq (.bool true)), (59, .load (.int .i64 (t : Int)))] [(4, .pointer (some ⟨w.heap.size, 0, none⟩)), (5, .pointer (some ⟨w_1.heap.size, 0, none⟩)), (6, .pointer (some ⟨w_6.heap.size, 0, none⟩)), (7, .func (.func 143) #[] #[.pointer (some ⟨w_11.heap.size, 0, none⟩)]), (8, .pointer (some ⟨g8, 0, none⟩)), (9, .pointer (some ⟨wl.heap.size, 0, none⟩)), (58, .bool true), (59, .int .i64 (t : Int)), (1000000, encD (D_194 :: ds))] w_193 [Value.bool (decide ((pre.length : Int) < ((U.scz s).length : Int))) = Value.bool true, LoadsAs Tryd.prog 3 (⟨g8, 0, none⟩) (.int .i64 (t : Int)) w_193] (by kernel_rfl) ⟨congrArg Value.bool (decide_eq_true (c_201)), loads1 rfl (Blk.cell (Blk.below hk8 hBl) 0 _ rfl), trivial⟩ ?_
          by_cases c_202 : (t : Int) = 1
          · refine XL_run 7 [(60, .eq (.bool true))] [(4, .pointer (some ⟨w.heap.size, 0, none⟩)), (5, .pointer (some ⟨w_1.heap.size, 0, none⟩)), (6, .pointer (some ⟨w_6.heap.size, 0, none⟩)), (7, .func (.func 143) #[] #[.pointer (some ⟨w_11.heap.size, 0, none⟩)]), (8, .pointer (some ⟨g8, 0, none⟩)), (66, .bool true), (1000000, encD (D_194 :: ds))] w_193 [Value.bool ((t : Int) == 1) = Value.bool true] (by kernel_rfl) ⟨congrArg Value.bool (beq_iff_eq.2 (c_202)), trivial⟩ ?_
            refine XL_nil ?_
            refine X_cond true rfl ?_
            refine X_seq ?_
            refine X_region ?_
            refine XL_store (v := .bool false) rfl rfl rfl (by kernel_rfl) (Blk.below hk_13 (bt hB_46 hBl)) 0 [.bool false] #[.bool false] ⟨by kernel_rfl, rfl, by kernel_rfl⟩ ⟨by kernel_rfl, by kernel_rfl⟩ (Nat.le_of_ble_eq_true (by kernel_rfl)) (fun w_203 hg_204 hk_205 hz_206 => ?_)
            have hne_207 : w_11.heap.size ≠ w_6.heap.size := Nat.ne_of_gt (Nat.lt_of_lt_of_le (Blk.lt hk_13) (Nat.le_refl _))
            have hB_208 : Below w_16.heap.size w_16 w_193 := (bt (bt (bg hb_21 hg_26 (Nat.le_refl _)) HB) hBl)
            have hk_209 := Blk.other (Blk.below hk_17 hB_208) hg_204 hne_207
            have hne_210 : w_16.heap.size ≠ w_6.heap.size := Nat.ne_of_gt (Nat.lt_of_lt_of_le (Blk.lt hk_13) (hb_19).size)
            have hk_211 := Blk.other (Blk.below hk_27 (bt HB hBl)) hg_204 hne_210
            have hne_212 : wl.heap.size ≠ w_6.heap.size := Nat.ne_of_gt (Nat.lt_of_lt_of_le (Blk.lt hk_13) (hB_46).size)
            have hk_213 := Blk.other hk9 hg_204 hne_212
            have hne_214 : w_30.heap.size ≠ w_6.heap.size := Nat.ne_of_gt (Nat.lt_of_lt_of_le (Blk.lt hk_13) ((bt hB_46 hb_31)).size)
            have hk_215 := Blk.other hk10 hg_204 hne_214
            refine XL_nil ?_
            refine X_ret ?_
            refine RX.retM_cell (P := Tryd.prog) (fn := Tryd.f23) (N := 68) (R := R_) (c := 6) (t := 4) (p := ⟨w_6.heap.size, 0, none⟩) (v := .bool false) (ds := (D_194 :: ds)) (dsOf_enc (by kernel_rfl)) hdn_199 (Defs.store (Blk.below hk_13 (bt hB_46 hBl)) hg_204 hds_198) rfl rfl hk_205 (fun w_ hb_ => loads1 rfl (Blk.cell hb_ 0 _ rfl)) (fun w_ ho_ => hR_ _ _ ?_)
            exfalso; omega
          · refine XL_run 4 [(60, .eq (.bool false)), (62, .load (.int .i64 (pre.length : Int))), (63, .load (.int .i64 stop))] [(4, .pointer (some ⟨w.heap.size, 0, none⟩)), (5, .pointer (some ⟨w_1.heap.size, 0, none⟩)), (6, .pointer (some ⟨w_6.heap.size, 0, none⟩)), (7, .func (.func 143) #[] #[.pointer (some ⟨w_11.heap.size, 0, none⟩)]), (8, .pointer (some ⟨g8, 0, none⟩)), (58, .bool true), (61, .bool false), (62, .int .i64 (pre.length : Int)), (63, .int .i64 stop), (1000000, encD (D_194 :: ds))] w_193 [Value.bool ((t : Int) == 1) = Value.bool false, LoadsAs Tryd.prog 3 (⟨wl.heap.size, 0, none⟩) (.int .i64 (pre.length : Int)) w_193, LoadsAs Tryd.prog 3 (⟨w_1.heap.size, 0, none⟩) (.int .i64 stop) w_193] (by kernel_rfl) ⟨congrArg Value.bool (beq_eq_false_iff_ne.2 (c_202)), loads1 rfl (Blk.cell hk9 0 _ rfl), loads1 rfl (Blk.cell (Blk.below hk_8 (bt hB_45 hBl)) 0 _ rfl), trivial⟩ ?_
            by_cases c_216 : (pre.length : Int) ≤ stop
            · refine XL_run 3 [(64, .eq (.bool true))] [(4, .pointer (some ⟨w.heap.size, 0, none⟩)), (5, .pointer (some ⟨w_1.heap.size, 0, none⟩)), (6, .pointer (some ⟨w_6.heap.size, 0, none⟩)), (7, .func (.func 143) #[] #[.pointer (some ⟨w_11.heap.size, 0, none⟩)]), (8, .pointer (some ⟨g8, 0, none⟩)), (66, .bool true), (1000000, encD (D_194 :: ds))] w_193 [Value.bool (decide ((pre.length : Int) ≤ stop)) = Value.bool true] (by kernel_rfl) ⟨congrArg Value.bool (decide_eq_true (c_216)), trivial⟩ ?_
              refine XL_nil ?_
              refine X_cond true rfl ?_
              refine X_seq ?_
              refine X_region ?_
              refine XL_store (v := .bool false) rfl rfl rfl (by kernel_rfl) (Blk.below hk_13 (bt hB_46 hBl)) 0 [.bool false] #[.bool false] ⟨by kernel_rfl, rfl, by kernel_rfl⟩ ⟨by kernel_rfl, by kernel_rfl⟩ (Nat.le_of_ble_eq_true (by kernel_rfl)) (fun w_217 hg_218 hk_219 hz_220 => ?_)
              have hne_221 : w_11.heap.size ≠ w_6.heap.size := Nat.ne_of_gt (Nat.lt_of_lt_of_le (Blk.lt hk_13) (Nat.le_refl _))
              have hB_222 : Below w_16.heap.size w_16 w_193 := (bt (bt (bg hb_21 hg_26 (Nat.le_refl _)) HB) hBl)
              have hk_223 := Blk.other (Blk.below hk_17 hB_222) hg_218 hne_221
              have hne_224 : w_16.heap.size ≠ w_6.heap.size := Nat.ne_of_gt (Nat.lt_of_lt_of_le (Blk.lt hk_13) (hb_19).size)
              have hk_225 := Blk.other (Blk.below hk_27 (bt HB hBl)) hg_218 hne_224
              have hne_226 : wl.heap.size ≠ w_6.heap.size := Nat.ne_of_gt (Nat.lt_of_lt_of_le (Blk.lt hk_13) (hB_46).size)
              have hk_227 := Blk.other hk9 hg_218 hne_226
              have hne_228 : w_30.heap.size ≠ w_6.heap.size := Nat.ne_of_gt (Nat.lt_of_lt_of_le (Blk.lt hk_13) ((bt hB_46 hb_31)).size)
              have hk_229 := Blk.other hk10 hg_218 hne_228
              refine XL_nil ?_
              refine X_ret ?_
              refine RX.retM_cell (P := Tryd.prog) (fn := Tryd.f23) (N := 68) (R := R_) (c := 6) (t := 4) (p := ⟨w_6.heap.size, 0, none⟩) (v := .bool false) (ds := (D_194 :: ds)) (dsOf_enc (by kernel_rfl)) hdn_199 (Defs.store (Blk.below hk_13 (bt hB_46 hBl)) hg_218 hds_198) rfl rfl hk_219 (fun w_ hb_ => loads1 rfl (Blk.cell hb_ 0 _ rfl)) (fun w_ ho_ => hR_ _ _ ?_)
              exfalso; omega
            · refine XL_run 3 [(64, .eq (.bool false))] [(4, .pointer (some ⟨w.heap.size, 0, none⟩)), (5, .pointer (some ⟨w_1.heap.size, 0, none⟩)), (6, .pointer (some ⟨w_6.heap.size, 0, none⟩)), (7, .func (.func 143) #[] #[.pointer (some ⟨w_11.heap.size, 0, none⟩)]), (8, .pointer (some ⟨g8, 0, none⟩)), (66, .bool false), (1000000, encD (D_194 :: ds))] w_193 [Value.bool (decide ((pre.length : Int) ≤ stop)) = Value.bool false] (by kernel_rfl) ⟨congrArg Value.bool (decide_eq_false (c_216)), trivial⟩ ?_
              refine XL_nil ?_
              refine X_cond false rfl ?_
              refine X_skip ?_
              refine X_seq ?_
              refine X_seq ?_
              refine X_region ?_
              refine XL_run 1 [(67, .load (.int .i64 (t : Int)))] [(4, .pointer (some ⟨w.heap.size, 0, none⟩)), (5, .pointer (some ⟨w_1.heap.size, 0, none⟩)), (6, .pointer (some ⟨w_6.heap.size, 0, none⟩)), (7, .func (.func 143) #[] #[.pointer (some ⟨w_11.heap.size, 0, none⟩)]), (67, .int .i64 (t : Int)), (1000000, encD (D_194 :: ds))] w_193 [LoadsAs Tryd.prog 3 (⟨g8, 0, none⟩) (.int .i64 (t : Int)) w_193] (by kernel_rfl) ⟨loads1 rfl (Blk.cell (Blk.below hk8 hBl) 0 _ rfl), trivial⟩ ?_
              refine XL_nil ?_
              refine X_region ?_
              refine XL_run 1 [] [(4, .pointer (some ⟨w.heap.size, 0, none⟩)), (5, .pointer (some ⟨w_1.heap.size, 0, none⟩)), (6, .pointer (some ⟨w_6.heap.size, 0, none⟩)), (7, .func (.func 143) #[] #[.pointer (some ⟨w_11.heap.size, 0, none⟩)]), (8, .pointer (some ⟨w_193.heap.size, 0, none⟩)), (67, .int .i64 (t : Int)), (1000000, encD (D_194 :: ds))] (w_193.alloc (.cells #[.int .i64 0] 3)) [] (by kernel_rfl) trivial ?_
              obtain ⟨w_230, hw_234, hb_231, hk_232, hz_233⟩ := new_world w_193 #[.int .i64 0] 3
              rw [hw_234]
              refine XL_store (v := .int .i64 (t : Int)) rfl rfl rfl (by kernel_rfl) hk_232 0 [.int .i64 (t : Int)] #[.int .i64 (t : Int)] ⟨by kernel_rfl, rfl, by kernel_rfl⟩ ⟨by kernel_rfl, by kernel_rfl⟩ (Nat.le_of_ble_eq_true (by kernel_rfl)) (fun w_235 hg_236 hk_237 hz_238 => ?_)
              have hB_239 : Below w_16.heap.size w_16 w_193 := (bt (bt (bg hb_21 hg_26 (Nat.le_refl _)) HB) hBl)
              refine XL_nil ?_
              refine X_region ?_
              refine XL_run 2 [(19, .load (.int .i64 (t : Int))), (20, .eq (.int .i64 ((t : Int) + 1)))] [(4, .pointer (some ⟨w.heap.size, 0, none⟩)), (5, .pointer (some ⟨w_1.heap.size, 0, none⟩)), (6, .pointer (some ⟨w_6.heap.size, 0, none⟩)), (7, .func (.func 143) #[] #[.pointer (some ⟨w_11.heap.size, 0, none⟩)]), (8, .pointer (some ⟨w_193.heap.size, 0, none⟩)), (20, .int .i64 ((t : Int) + 1)), (1000000, encD (D_194 :: ds))] w_235 [LoadsAs Tryd.prog 3 (⟨w_193.heap.size, 0, none⟩) (.int .i64 (t : Int)) w_235, Value.int .i64 (IntKind.i64.wrap ((t : Int) + 1)) = Value.int .i64 ((t : Int) + 1)] (by kernel_rfl) ⟨loads1 rfl (Blk.cell hk_237 0 _ rfl), wr_i64 (by omega) (by omega), trivial⟩ ?_
              refine XL_store (v := .int .i64 ((t : Int) + 1)) rfl rfl rfl (by kernel_rfl) hk_237 0 [.int .i64 ((t : Int) + 1)] #[.int .i64 ((t : Int) + 1)] ⟨by kernel_rfl, rfl, by kernel_rfl⟩ ⟨by kernel_rfl, by kernel_rfl⟩ (Nat.le_of_ble_eq_true (by kernel_rfl)) (fun w_240 hg_241 hk_242 hz_243 => ?_)
              refine XL_nil ?_
              have hB_244 : Below w_25.heap.size w_25 w_240 := (bg (bg (bt (bt HB hBl) hb_231) hg_236 ((bt HB hBl)).size) hg_241 ((bt HB hBl)).size)
              refine ⟨(t + 1, (D_194 :: ds), w_193.heap.size), by kernel_rfl, ?_, ?_⟩
              · have hx8 := hk_242
                exact ⟨by omega, hx8, hB_244, (Defs.store hk_237 hg_241 (Defs.store hk_232 hg_236 (Defs.below hb_231 hds_198))), hdn_199, hdge_200⟩
              · (try dsimp only); omega
        · refine XL_run 10 [(57, .eq (.bool false))] [(4, .pointer (some ⟨w.heap.size, 0, none⟩)), (5, .pointer (some ⟨w_1.heap.size, 0, none⟩)), (6, .pointer (some ⟨w_6.heap.size, 0, none⟩)), (7, .func (.func 143) #[] #[.pointer (some ⟨w_11.heap.size, 0, none⟩)]), (8, .pointer (some ⟨g8, 0, none⟩)), (66, .bool false), (1000000, encD (D_194 :: ds))] w_193 [Value.bool (decide ((pre.length : Int) < ((U.scz s).length : Int))) = Value.bool false] (by kernel_rfl) ⟨congrArg Value.bool (decide_eq_false (c_201)), trivial⟩ ?_
          refine XL_nil ?_
          refine X_cond false rfl ?_
          refine X_skip ?_
          refine X_seq ?_
          refine X_seq ?_
          refine X_region ?_
          refine XL_run 1 [(67, .load (.int .i64 (t : Int)))] [(4, .pointer (some ⟨w.heap.size, 0, none⟩)), (5, .pointer (some ⟨w_1.heap.size, 0, none⟩)), (6, .pointer (some ⟨w_6.heap.size, 0, none⟩)), (7, .func (.func 143) #[] #[.pointer (some ⟨w_11.heap.size, 0, none⟩)]), (67, .int .i64 (t : Int)), (1000000, encD (D_194 :: ds))] w_193 [LoadsAs Tryd.prog 3 (⟨g8, 0, none⟩) (.int .i64 (t : Int)) w_193] (by kernel_rfl) ⟨loads1 rfl (Blk.cell (Blk.below hk8 hBl) 0 _ rfl), trivial⟩ ?_
          refine XL_nil ?_
          refine X_region ?_
          refine XL_run 1 [] [(4, .pointer (some ⟨w.heap.size, 0, none⟩)), (5, .pointer (some ⟨w_1.heap.size, 0, none⟩)), (6, .pointer (some ⟨w_6.heap.size, 0, none⟩)), (7, .func (.func 143) #[] #[.pointer (some ⟨w_11.heap.size, 0, none⟩)]), (8, .pointer (some ⟨w_193.heap.size, 0, none⟩)), (67, .int .i64 (t : Int)), (1000000, encD (D_194 :: ds))] (w_193.alloc (.cells #[.int .i64 0] 3)) [] (by kernel_rfl) trivial ?_
          obtain ⟨w_245, hw_249, hb_246, hk_247, hz_248⟩ := new_world w_193 #[.int .i64 0] 3
          rw [hw_249]
          refine XL_store (v := .int .i64 (t : Int)) rfl rfl rfl (by kernel_rfl) hk_247 0 [.int .i64 (t : Int)] #[.int .i64 (t : Int)] ⟨by kernel_rfl, rfl, by kernel_rfl⟩ ⟨by kernel_rfl, by kernel_rfl⟩ (Nat.le_of_ble_eq_true (by kernel_rfl)) (fun w_250 hg_251 hk_252 hz_253 => ?_)
          have hB_254 : Below w_16.heap.size w_16 w_193 := (bt (bt (bg hb_21 hg_26 (Nat.le_refl _)) HB) hBl)
          refine XL_nil ?_
          refine X_region ?_
          refine XL_run 2 [(19, .load (.int .i64 (t : Int))), (20, .eq (.int .i64 ((t : Int) + 1)))] [(4, .pointer (some ⟨w.heap.size, 0, none⟩)), (5, .pointer (some ⟨w_1.heap.size, 0, none⟩)), (6, .pointer (some ⟨w_6.heap.size, 0, none⟩)), (7, .func (.func 143) #[] #[.pointer (some ⟨w_11.heap.size, 0, none⟩)]), (8, .pointer (some ⟨w_193.heap.size, 0, none⟩)), (20, .int .i64 ((t : Int) + 1)), (1000000, encD (D_194 :: ds))] w_250 [LoadsAs Tryd.prog 3 (⟨w_193.heap.size, 0, none⟩) (.int .i64 (t : Int)) w_250, Value.int .i64 (IntKind.i64.wrap ((t : Int) + 1)) = Value.int .i64 ((t : Int) + 1)] (by kernel_rfl) ⟨loads1 rfl (Blk.cell hk_252 0 _ rfl), wr_i64 (by omega) (by omega), trivial⟩ ?_
          refine XL_store (v := .int .i64 ((t : Int) + 1)) rfl rfl rfl (by kernel_rfl) hk_252 0 [.int .i64 ((t : Int) + 1)] #[.int .i64 ((t : Int) + 1)] ⟨by kernel_rfl, rfl, by kernel_rfl⟩ ⟨by kernel_rfl, by kernel_rfl⟩ (Nat.le_of_ble_eq_true (by kernel_rfl)) (fun w_255 hg_256 hk_257 hz_258 => ?_)
          refine XL_nil ?_
          have hB_259 : Below w_25.heap.size w_25 w_255 := (bg (bg (bt (bt HB hBl) hb_246) hg_251 ((bt HB hBl)).size) hg_256 ((bt HB hBl)).size)
          refine ⟨(t + 1, (D_194 :: ds), w_193.heap.size), by kernel_rfl, ?_, ?_⟩
          · have hx8 := hk_257
            exact ⟨by omega, hx8, hB_259, (Defs.store hk_252 hg_256 (Defs.store hk_247 hg_251 (Defs.below hb_246 hds_198))), hdn_199, hdge_200⟩
          · (try dsimp only); omega
  · refine XL_run 1 [(18, .eq (.bool false))] [(4, .pointer (some ⟨w.heap.size, 0, none⟩)), (5, .pointer (some ⟨w_1.heap.size, 0, none⟩)), (6, .pointer (some ⟨w_6.heap.size, 0, none⟩)), (7, .func (.func 143) #[] #[.pointer (some ⟨w_11.heap.size, 0, none⟩)]), (8, .pointer (some ⟨g8, 0, none⟩)), (18, .bool false), (1000000, encD ds)] wl [Value.bool (decide ((t : Int) < 2)) = Value.bool false] (by kernel_rfl) ⟨congrArg Value.bool (decide_eq_false (c_29)), trivial⟩ ?_
    refine XL_nil ?_
    refine X_cond false rfl ?_
    refine X_exit ?_
    refine X_seq ?_
    refine X_region ?_
    have hB_264 : Below w_11.heap.size w_11 wl := (bt (bg (bt hb_19 hb_21) hg_26 (hb_19).size) HB)
    refine XL_store (v := .bool true) rfl rfl rfl (by kernel_rfl) (Blk.below hk_13 hB_264) 0 [.bool true] #[.bool true] ⟨by kernel_rfl, rfl, by kernel_rfl⟩ ⟨by kernel_rfl, by kernel_rfl⟩ (Nat.le_of_ble_eq_true (by kernel_rfl)) (fun w_260 hg_261 hk_262 hz_263 => ?_)
    have hne_265 : w_11.heap.size ≠ w_6.heap.size := Nat.ne_of_gt (Nat.lt_of_lt_of_le (Blk.lt hk_13) (Nat.le_refl _))
    have hk_266 := Blk.other (Blk.below hk_17 (bt (bg hb_21 hg_26 (Nat.le_refl _)) HB)) hg_261 hne_265
    have hne_267 : w_16.heap.size ≠ w_6.heap.size := Nat.ne_of_gt (Nat.lt_of_lt_of_le (Blk.lt hk_13) (hb_19).size)
    have hk_268 := Blk.other (Blk.below hk_27 HB) hg_261 hne_267
    refine XL_nil ?_
    refine X_ret ?_
    refine RX.retM_cell (P := Tryd.prog) (fn := Tryd.f23) (N := 68) (R := R_) (c := 6) (t := 4) (p := ⟨w_6.heap.size, 0, none⟩) (v := .bool true) (ds := ds) (dsOf_enc (by kernel_rfl)) hdn (Defs.store (Blk.below hk_13 hB_264) hg_261 hds) rfl rfl hk_262 (fun w_ hb_ => loads1 rfl (Blk.cell hb_ 0 _ rfl)) (fun w_ ho_ => hR_ _ _ ?_)
    have hB_269 : Below w.heap.size w w_260 := (bg (bt (bg (bt (bt (bt (bt hb_2 hb_7) hb_12) hb_19) hb_21) hg_26 ((bt (bt (bt hb_2 hb_7) hb_12) hb_19)).size) HB) hg_261 ((bt hb_2 hb_7)).size)
    have hB_270 : Below w.heap.size w w_25 := (bg (bt (bt (bt (bt hb_2 hb_7) hb_12) hb_19) hb_21) hg_26 ((bt (bt (bt hb_2 hb_7) hb_12) hb_19)).size)
    exact ⟨rfl, Off.below ho_ hB_269 (fun D_ hm_ => Nat.le_trans (hB_270).size (hdge D_ hm_))⟩
theorem tx_n (s : ByteArray) : (if (uchk s).2 then 0 else 1) = chkN s ∧ (uchk s).1 = U.brkAt s ∧ (U.listP s).2 = chkN s ∧ (U.lenP s).2 = chkN s := by
  rw [U.uchk_eq]
  unfold U.listP U.lenP chkN
  by_cases h : U.tl s = []
  · simp [h]
  · simp [h]
theorem tx_ok {s : ByteArray} (h : chkN s = 0) : (U.listP s).1 = U.scz s ∧ (U.lenP s).1 = (U.scz s).length := by
  have h := (chkN_iff s).1 h
  unfold U.listP U.lenP
  rw [if_pos h, if_pos h, ea_szl]
  exact ⟨rfl, rfl⟩
theorem tx_bad {s : ByteArray} (h : ¬ chkN s = 0) : (U.listP s).1 = [] ∧ (U.lenP s).1 = 0 := by
  have h := mt (chkN_iff s).2 h
  unfold U.listP U.lenP
  rw [if_neg h, if_neg h]
  exact ⟨rfl, rfl⟩
set_option maxHeartbeats 4000000 in
theorem stexts_any (s : ByteArray) (stop : Int) (w : World) (hs : s.size ≤ 1048576) (hT : Tabs w) (es : List Addr) (hE : Errs w es) : Calls Tryd.prog 3 #[.string s, .int .i64 stop] w fun e w' => e = .returned (.bool true) ∧ Below w.heap.size w w' := by
  have hA : ErrsA w es := hE.on (by decide)
  have hcl := chkN_le s
  obtain ⟨hn1, hn2, hn3, hn4⟩ := tx_n s
  refine RX.enter Tryd.func3 rfl 87 rfl [(0, .string s), (1, .int .i64 stop)] rfl (by kernel_rfl) (fun R_ hR_ => ?_)
  refine X_seq ?_
  refine X_region ?_
  refine XL_run 1 [] [(0, .string s), (1, .int .i64 stop)] w [] (by kernel_rfl) trivial ?_
  refine XL_nil ?_
  refine X_seq ?_
  refine X_seq ?_
  refine X_region ?_
  refine XL_call 15 rfl rfl rfl ent15 [] (by kernel_rfl) (lives_any _ (hT.below (Below.refl _ _)) es (hE.below (Below.refl _ _))) ?_
  rintro e w_1 ⟨rfl, hb_2⟩; refine ⟨_, rfl, ?_⟩
  refine XL_run 1 [] [(0, .string s), (1, .int .i64 stop), (14, .bool false)] w_1 [] (by kernel_rfl) trivial ?_
  refine XL_nil ?_
  refine X_cond false rfl ?_
  refine X_skip ?_
  refine X_seq ?_
  refine X_region ?_
  refine XL_run 1 [] [(0, .string s), (1, .int .i64 stop), (16, .string s)] w_1 [] (by kernel_rfl) trivial ?_
  refine XL_call 16 rfl rfl rfl ent16 [.string s] (by kernel_rfl) (scheck_any s _ (by omega) (hT.below hb_2) es (hA.below hb_2)) ?_
  rintro e w_3 ⟨rfl, hb_4⟩; refine ⟨_, rfl, ?_⟩
  rw [hn1, hn2]
  refine XL_run 5 [] [(0, .string s), (1, .int .i64 stop), (5, .int .i64 (U.brkAt s : Int)), (6, errV es (chkN s))] w_3 [] (by kernel_rfl) trivial ?_
  refine XL_nil ?_
  refine X_seq ?_
  refine X_region ?_
  refine XL_run 1 [] [(0, .string s), (1, .int .i64 stop), (5, .int .i64 (U.brkAt s : Int)), (6, errV es (chkN s)), (21, .string s)] w_3 [] (by kernel_rfl) trivial ?_
  refine XL_call 17 rfl rfl rfl ent17 [.string s] (by kernel_rfl) (rcheck_any s _ (by omega)) ?_
  rintro e w_5 ⟨rfl, hb_6⟩; refine ⟨_, rfl, ?_⟩
  refine XL_run 5 [] [(0, .string s), (1, .int .i64 stop), (5, .int .i64 (U.brkAt s : Int)), (6, errV es (chkN s)), (7, .int .i64 (U.brkAt s : Int)), (8, .int .i64 (chkN s : Int))] w_5 [] (by kernel_rfl) trivial ?_
  refine XL_nil ?_
  refine X_seq ?_
  refine X_seq ?_
  refine X_region ?_
  refine XL_run 5 [(27, .eq (.bool false))] [(0, .string s), (1, .int .i64 stop), (8, .int .i64 (chkN s : Int)), (28, .bool false), (29, errV es (chkN s))] w_5 [Value.bool ((U.brkAt s : Int) != (U.brkAt s : Int)) = Value.bool false] (by kernel_rfl) ⟨congrArg Value.bool (bneF rfl), trivial⟩ ?_
  refine XL_call 18 rfl rfl rfl ent18 [errV es (chkN s)] (by kernel_rfl) (num_any es (chkN s) (by omega) _ (hE.below (bt (bt hb_2 hb_4) hb_6))) ?_
  rintro e w_7 ⟨rfl, hb_8⟩; refine ⟨_, rfl, ?_⟩
  refine XL_run 3 [(32, .eq (.bool false))] [(0, .string s), (1, .int .i64 stop), (8, .int .i64 (chkN s : Int)), (33, .bool false)] w_7 [Value.bool ((chkN s : Int) != (chkN s : Int)) = Value.bool false] (by kernel_rfl) ⟨congrArg Value.bool (bneF rfl), trivial⟩ ?_
  refine XL_nil ?_
  refine X_cond false rfl ?_
  refine X_skip ?_
  refine X_seq ?_
  refine X_region ?_
  refine XL_run 1 [] [(0, .string s), (1, .int .i64 stop), (8, .int .i64 (chkN s : Int)), (34, .string s)] w_7 [] (by kernel_rfl) trivial ?_
  refine XL_call 19 rfl rfl rfl ent19 [.string s] (by kernel_rfl) (rlist_any s _ (by omega)) ?_
  rintro e w_13 ⟨A_9, c_10, rfl, hl_11, hr_12, hb_14⟩; refine ⟨_, rfl, ?_⟩
  refine XL_run 1 [] [(0, .string s), (1, .int .i64 stop), (8, .int .i64 (chkN s : Int)), (9, .slice A_9 ((U.scz s).length) c_10)] w_13 [] (by kernel_rfl) trivial ?_
  refine XL_nil ?_
  refine X_seq ?_
  refine X_region ?_
  refine XL_run 1 [] [(0, .string s), (1, .int .i64 stop), (8, .int .i64 (chkN s : Int)), (9, .slice A_9 ((U.scz s).length) c_10), (37, .string s)] w_13 [] (by kernel_rfl) trivial ?_
  have hB_19 : Below w.heap.size w w_13 := (bt (bt (bt (bt hb_2 hb_4) hb_6) hb_8) hb_14)
  refine XL_call 20 rfl rfl rfl ent20 [.string s] (by kernel_rfl) (slist_any s _ (by omega) (hT.below hB_19) es (hA.below hB_19)) ?_
  rintro e w_20 ⟨A_15, c_16, rfl, hl_17, hr_18, hb_21⟩; refine ⟨_, rfl, ?_⟩
  rw [hn3]
  refine XL_run 5 [] [(0, .string s), (1, .int .i64 stop), (6, errV es (chkN s)), (8, .int .i64 (chkN s : Int)), (9, .slice A_9 ((U.scz s).length) c_10), (10, .slice A_15 ((U.listP s).1.length) c_16)] w_20 [] (by kernel_rfl) trivial ?_
  refine XL_nil ?_
  refine X_seq ?_
  refine X_region ?_
  refine XL_run 1 [] [(0, .string s), (1, .int .i64 stop), (6, errV es (chkN s)), (8, .int .i64 (chkN s : Int)), (9, .slice A_9 ((U.scz s).length) c_10), (10, .slice A_15 ((U.listP s).1.length) c_16), (42, .string s)] w_20 [] (by kernel_rfl) trivial ?_
  refine XL_call 21 rfl rfl rfl ent21 [.string s] (by kernel_rfl) (len_any s _ (by omega) (hT.below (bt hB_19 hb_21)) es (hA.below (bt hB_19 hb_21))) ?_
  rintro e w_22 ⟨rfl, hb_23⟩; refine ⟨_, rfl, ?_⟩
  rw [hn4]
  refine XL_run 5 [] [(0, .string s), (1, .int .i64 stop), (6, errV es (chkN s)), (8, .int .i64 (chkN s : Int)), (9, .slice A_9 ((U.scz s).length) c_10), (10, .slice A_15 ((U.listP s).1.length) c_16), (11, .int .i64 ((U.lenP s).1 : Int)), (12, errV es (chkN s))] w_22 [] (by kernel_rfl) trivial ?_
  refine XL_nil ?_
  refine X_seq ?_
  refine X_seq ?_
  refine X_region ?_
  refine XL_run 1 [] [(0, .string s), (1, .int .i64 stop), (8, .int .i64 (chkN s : Int)), (9, .slice A_9 ((U.scz s).length) c_10), (10, .slice A_15 ((U.listP s).1.length) c_16), (11, .int .i64 ((U.lenP s).1 : Int)), (12, errV es (chkN s)), (46, errV es (chkN s))] w_22 [] (by kernel_rfl) trivial ?_
  refine XL_call 18 rfl rfl rfl ent18 [errV es (chkN s)] (by kernel_rfl) (num_any es (chkN s) (by omega) _ (hE.below (bt (bt hB_19 hb_21) hb_23))) ?_
  rintro e w_24 ⟨rfl, hb_25⟩; refine ⟨_, rfl, ?_⟩
  refine XL_run 4 [(49, .eq (.bool false))] [(0, .string s), (1, .int .i64 stop), (8, .int .i64 (chkN s : Int)), (9, .slice A_9 ((U.scz s).length) c_10), (10, .slice A_15 ((U.listP s).1.length) c_16), (11, .int .i64 ((U.lenP s).1 : Int)), (50, .bool false), (51, errV es (chkN s))] w_24 [Value.bool ((chkN s : Int) != (chkN s : Int)) = Value.bool false] (by kernel_rfl) ⟨congrArg Value.bool (bneF rfl), trivial⟩ ?_
  refine XL_call 18 rfl rfl rfl ent18 [errV es (chkN s)] (by kernel_rfl) (num_any es (chkN s) (by omega) _ (hE.below (bt (bt (bt hB_19 hb_21) hb_23) hb_25))) ?_
  rintro e w_26 ⟨rfl, hb_27⟩; refine ⟨_, rfl, ?_⟩
  refine XL_run 3 [(54, .eq (.bool false))] [(0, .string s), (1, .int .i64 stop), (8, .int .i64 (chkN s : Int)), (9, .slice A_9 ((U.scz s).length) c_10), (10, .slice A_15 ((U.listP s).1.length) c_16), (11, .int .i64 ((U.lenP s).1 : Int)), (55, .bool false)] w_26 [Value.bool ((chkN s : Int) != (chkN s : Int)) = Value.bool false] (by kernel_rfl) ⟨congrArg Value.bool (bneF rfl), trivial⟩ ?_
  refine XL_nil ?_
  refine X_cond false rfl ?_
  refine X_skip ?_
  refine X_seq ?_
  refine X_seq ?_
  refine X_region ?_
  refine XL_run 1 [] [(0, .string s), (1, .int .i64 stop), (8, .int .i64 (chkN s : Int)), (9, .slice A_9 ((U.scz s).length) c_10), (10, .slice A_15 ((U.listP s).1.length) c_16), (11, .int .i64 ((U.lenP s).1 : Int)), (56, .int .i64 (chkN s : Int))] w_26 [] (by kernel_rfl) trivial ?_
  by_cases c_28 : (chkN s : Int) = 0
  · have ht_ := tx_ok (s := s) (by omega)
    refine XL_run 4 [(57, .eq (.bool true))] [(0, .string s), (1, .int .i64 stop), (8, .int .i64 (chkN s : Int)), (9, .slice A_9 ((U.scz s).length) c_10), (10, .slice A_15 ((U.listP s).1.length) c_16), (11, .int .i64 ((U.lenP s).1 : Int)), (58, .bool true), (59, .slice A_15 ((U.listP s).1.length) c_16), (60, .slice A_9 ((U.scz s).length) c_10)] w_26 [Value.bool ((chkN s : Int) == 0) = Value.bool true] (by kernel_rfl) ⟨congrArg Value.bool (beq_iff_eq.2 (c_28)), trivial⟩ ?_
    refine XL_call 22 rfl rfl rfl ent22 [.slice A_15 ((U.listP s).1.length) c_16, .slice A_9 ((U.scz s).length) c_10] (by kernel_rfl) (srunes_any _ _ _ _ ((U.listP s).1) (U.scz s) _ (Kd.R_C (Kd.R_below hr_18 (bt (bt hb_23 hb_25) hb_27))) (Kd.R_C (Kd.R_below hr_12 (bt (bt (bt hb_21 hb_23) hb_25) hb_27)))) ?_
    rintro e w_29 ⟨rfl, hb_30⟩; refine ⟨_, rfl, ?_⟩
    rw [show decide ((U.listP s).1 = (U.scz s)) = true from decide_eq_true (tx_ok (by omega)).1]
    refine XL_run 5 [] [(0, .string s), (1, .int .i64 stop), (8, .int .i64 (chkN s : Int)), (9, .slice A_9 ((U.scz s).length) c_10), (10, .slice A_15 ((U.listP s).1.length) c_16), (11, .int .i64 ((U.lenP s).1 : Int)), (58, .bool true), (63, .bool false), (64, .int .i64 ((U.lenP s).1 : Int)), (66, .int .i64 ((U.scz s).length : Int))] w_29 [] (by kernel_rfl) trivial ?_
    by_cases c_31 : ((U.lenP s).1 : Int) = ((U.scz s).length : Int)
    · refine XL_run 16 [(67, .eq (.bool false)), (72, .eq (.bool false))] [(0, .string s), (1, .int .i64 stop), (9, .slice A_9 ((U.scz s).length) c_10), (82, .bool false)] w_29 [Value.bool (((U.lenP s).1 : Int) != ((U.scz s).length : Int)) = Value.bool false, Value.bool ((chkN s : Int) != 0) = Value.bool false] (by kernel_rfl) ⟨congrArg Value.bool (bneF (c_31)), congrArg Value.bool (bneF (c_28)), trivial⟩ ?_
      refine XL_nil ?_
      refine X_cond false rfl ?_
      refine X_skip ?_
      refine X_seq ?_
      refine X_region ?_
      refine XL_run 3 [] [(83, .string s), (84, .slice A_9 ((U.scz s).length) c_10), (85, .int .i64 stop)] w_29 [] (by kernel_rfl) trivial ?_
      have hB_32 : Below w_13.heap.size w_13 w_29 := (bt (bt (bt (bt hb_21 hb_23) hb_25) hb_27) hb_30)
      have hB_33 : Below w.heap.size w w_29 := (bt (bt (bt (bt (bt hB_19 hb_21) hb_23) hb_25) hb_27) hb_30)
      refine XL_call 23 rfl rfl rfl ent23 [.string s, .slice A_9 ((U.scz s).length) c_10, .int .i64 stop] (by kernel_rfl) (leach_any s _ _ stop _ (by omega) (Kd.R_C (Kd.R_below hr_12 hB_32)) (hT.below hB_33)) ?_
      rintro e w_34 ⟨rfl, hb_35⟩; refine ⟨_, rfl, ?_⟩
      refine XL_run 1 [] [(4, .bool true)] w_34 [] (by kernel_rfl) trivial ?_
      refine XL_nil ?_
      refine X_ret ?_
      refine RX.ret_ok (P := Tryd.prog) (fn := Tryd.f3) (N := 87) (R := R_) [.bool true] (by kernel_rfl) (hR_ _ _ ?_)
      exact ⟨rfl, (bt hB_33 hb_35)⟩
    · exfalso; omega
  · have ht_ := tx_bad (s := s) (by omega)
    refine XL_run 22 [(57, .eq (.bool false)), (72, .eq (.bool true)), (76, .eq (.bool false))] [(0, .string s), (1, .int .i64 stop), (9, .slice A_9 ((U.scz s).length) c_10), (70, .bool false), (73, .bool true), (77, .bool false), (78, .int .i64 ((U.lenP s).1 : Int))] w_26 [Value.bool ((chkN s : Int) == 0) = Value.bool false, Value.bool ((chkN s : Int) != 0) = Value.bool true, Value.bool (((U.listP s).1.length : Int) != 0) = Value.bool false] (by kernel_rfl) ⟨congrArg Value.bool (beq_eq_false_iff_ne.2 (c_28)), congrArg Value.bool (bneT (c_28)), congrArg Value.bool (bneF ((by rw [ht_.1]; rfl))), trivial⟩ ?_
    by_cases c_36 : ((U.lenP s).1 : Int) = 0
    · refine XL_run 4 [(79, .eq (.bool false))] [(0, .string s), (1, .int .i64 stop), (9, .slice A_9 ((U.scz s).length) c_10), (82, .bool false)] w_26 [Value.bool (((U.lenP s).1 : Int) != 0) = Value.bool false] (by kernel_rfl) ⟨congrArg Value.bool (bneF (c_36)), trivial⟩ ?_
      refine XL_nil ?_
      refine X_cond false rfl ?_
      refine X_skip ?_
      refine X_seq ?_
      refine X_region ?_
      refine XL_run 3 [] [(83, .string s), (84, .slice A_9 ((U.scz s).length) c_10), (85, .int .i64 stop)] w_26 [] (by kernel_rfl) trivial ?_
      have hB_37 : Below w.heap.size w w_26 := (bt (bt (bt (bt hB_19 hb_21) hb_23) hb_25) hb_27)
      refine XL_call 23 rfl rfl rfl ent23 [.string s, .slice A_9 ((U.scz s).length) c_10, .int .i64 stop] (by kernel_rfl) (leach_any s _ _ stop _ (by omega) (Kd.R_C (Kd.R_below hr_12 (bt (bt (bt hb_21 hb_23) hb_25) hb_27))) (hT.below hB_37)) ?_
      rintro e w_38 ⟨rfl, hb_39⟩; refine ⟨_, rfl, ?_⟩
      refine XL_run 1 [] [(4, .bool true)] w_38 [] (by kernel_rfl) trivial ?_
      refine XL_nil ?_
      refine X_ret ?_
      refine RX.ret_ok (P := Tryd.prog) (fn := Tryd.f3) (N := 87) (R := R_) [.bool true] (by kernel_rfl) (hR_ _ _ ?_)
      exact ⟨rfl, (bt hB_37 hb_39)⟩
    · exfalso; omega
end Go.Proofs.YtkehomiogkoomaaDoor
