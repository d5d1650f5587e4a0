import Derived.Test.YtkehomiogkoomaaDoorT16
import Derived.Test.YtkehomiogkoomaaDoorT13
import Derived.Test.YtkehomiogkoomaaDoorHandC
import Derived.Test.YtkehomiogkoomaaDoorErr
import Derived.Test.YtkehomiogkoomaaDoorAt
/- vellumref06.Of. Conditions: sizes, the tables of utf8. -/
set_option linter.unusedVariables false
set_option linter.unusedSimpArgs false
set_option maxRecDepth 100000
namespace Go.Proofs.YtkehomiogkoomaaDoor
open Go Go.RowKit Go.Proofs.YtkehomiogkoomaaDoorW.PrintWords RX
theorem plainErr_le (k n : Int) (t : ByteArray) : plainErr k n t ≤ 19 := by unfold plainErr; repeat (first | omega | split)
theorem pairErr_le (x : At) : pairErr x ≤ 19 := by
 have := plainErr_le x.2.1 x.2.2.1 x.2.2.2
 unfold pairErr; repeat (first | omega | split)
theorem attrAt_le (nulls : Bool) (xs : List At) (i : Nat) : attrAt nulls xs i ≤ 19 := by
 have := pairErr_le (xs.getD i at0)
 unfold attrAt; repeat (first | omega | split)
theorem chkUpto_le (nulls : Bool) (xs : List At) : ∀ n, chkUpto nulls xs n ≤ 19
 | 0 => by show (0 : Nat) ≤ 19; omega
 | n + 1 => by
  have h1 := chkUpto_le nulls xs n
  have h2 := attrAt_le nulls xs n
  show (if chkUpto nulls xs n ≠ 0 then chkUpto nulls xs n else attrAt nulls xs n) ≤ 19
  split <;> omega
theorem B.firstE_le {f : Nat → Nat} {k : Nat} (h : ∀ j, f j ≤ k) : ∀ n, (B.firstE f n).2 ≤ k
 | 0 => Nat.zero_le _
 | n + 1 => by
  by_cases hz : ∀ j, j < n + 1 → f j = 0
  ·rw [B.first_none hz]; exact Nat.zero_le _
  by_cases hs : (B.firstE f (n + 1)).2 = 0
  ·rw [hs]; exact Nat.zero_le _
  have : ∃ i, i < n + 1 ∧ (∀ j, j < i → f j = 0) ∧ f i ≠ 0 := by
   have key : ∀ k, (∀ j, j < k → f j = 0) ∨ ∃ i, i < k ∧ (∀ j, j < i → f j = 0) ∧ f i ≠ 0 := by
    intro k
    induction k with
    | zero => exact .inl fun j hj => absurd hj (Nat.not_lt_zero _)
    | succ k ih =>
     rcases ih with ih | ⟨i, h1, h2, h3⟩
     ·by_cases hk : f k = 0
      ·exact .inl fun j hj => by
        by_cases e : j = k
        ·rw [e]; exact hk
        exact ih j (by omega)
      exact .inr ⟨k, Nat.lt_succ_self _, ih, hk⟩
     exact .inr ⟨i, by omega, h2, h3⟩
   exact (key (n + 1)).resolve_left hz
  obtain ⟨i, h1, h2, h3⟩ := this
  rw [B.first_at h2 h3 h1]
  exact h i
theorem RX.MixK.spoilt {α : Type} {d : Kd α} {z : α} {e Bs lo hi : Nat} {W0 w w1 : World} {A : Option Addr} {n c : Nat} {xs : List α} (h : RX.MixK d z e Bs W0 w A n c xs) (hs : Spoilt lo hi w w1) (hb : hi ≤ Bs) : RX.MixK d z e Bs W0 w1 A n c xs := by
 obtain ⟨vs, hR, hl, hK⟩ := h
 exact ⟨vs, Kd.R_spoilt hR hs hb, hl, hK⟩
end Go.Proofs.YtkehomiogkoomaaDoor
/- What vellumnum.list and Num answer. Condition: Errs. -/
set_option linter.unusedVariables false
set_option linter.unusedSimpArgs false
set_option maxRecDepth 100000
namespace Go.Proofs.YtkehomiogkoomaaDoor
open Go Go.RowKit RX
theorem ent89 : Ent Tryd.prog 89 := ent_of Tryd.func89 (by kernel_rfl) rfl
theorem ent18 : Ent Tryd.prog 18 := ent_of Tryd.func18 (by kernel_rfl) rfl
theorem list_any (es : List Addr) (w : World) (h : Errs w es) : Calls Tryd.prog 89 #[] w fun e w' => e = .returned (.agg (errAgg es)) ∧ Below w.heap.size w w' := by
 refine RX.enter Tryd.func89 rfl 21 rfl [] rfl (by kernel_rfl) (fun R_ hR_ => ?_)
 refine sq (rg (xwe 1 [] [(0, pw w.heap.size 0)] (w.alloc (.cells #[.nilIface, .nilIface, .nilIface, .nilIface, .nilIface, .nilIface, .nilIface, .nilIface, .nilIface, .nilIface, .nilIface, .nilIface, .nilIface, .nilIface, .nilIface, .nilIface, .nilIface, .nilIface, .nilIface] 149)) [] trivial ?_))
 obtain ⟨w_1, hw_5, hb_2, hk_3, hz_4⟩ := new_world w #[.nilIface, .nilIface, .nilIface, .nilIface, .nilIface, .nilIface, .nilIface, .nilIface, .nilIface, .nilIface, .nilIface, .nilIface, .nilIface, .nilIface, .nilIface, .nilIface, .nilIface, .nilIface, .nilIface] 149
 rw [hw_5]
 refine nl (sq (rg (xr 20 [(1, .load (.iface 235 (.pointer (some (errAt es 1))))), (2, .load (.iface 235 (.pointer (some (errAt es 2))))), (3, .load (.iface 235 (.pointer (some (errAt es 3))))), (4, .load (.iface 235 (.pointer (some (errAt es 4))))), (5, .load (.iface 235 (.pointer (some (errAt es 5))))), (6, .load (.iface 235 (.pointer (some (errAt es 6))))), (7, .load (.iface 235 (.pointer (some (errAt es 7))))), (8, .load (.iface 235 (.pointer (some (errAt es 8))))), (9, .load (.iface 235 (.pointer (some (errAt es 9))))), (10, .load (.iface 235 (.pointer (some (errAt es 10))))), (11, .load (.iface 235 (.pointer (some (errAt es 11))))), (12, .load (.iface 235 (.pointer (some (errAt es 12))))), (13, .load (.iface 235 (.pointer (some (errAt es 13))))), (14, .load (.iface 235 (.pointer (some (errAt es 14))))), (15, .load (.iface 235 (.pointer (some (errAt es 15))))), (16, .load (.iface 235 (.pointer (some (errAt es 16))))), (17, .load (.iface 235 (.pointer (some (errAt es 17))))), (18, .load (.iface 235 (.pointer (some (errAt es 18))))), (19, .load (.iface 235 (.pointer (some (errAt es 19)))))] [(20, .agg #[.iface 235 (.pointer (some (errAt es 1))), .iface 235 (.pointer (some (errAt es 2))), .iface 235 (.pointer (some (errAt es 3))), .iface 235 (.pointer (some (errAt es 4))), .iface 235 (.pointer (some (errAt es 5))), .iface 235 (.pointer (some (errAt es 6))), .iface 235 (.pointer (some (errAt es 7))), .iface 235 (.pointer (some (errAt es 8))), .iface 235 (.pointer (some (errAt es 9))), .iface 235 (.pointer (some (errAt es 10))), .iface 235 (.pointer (some (errAt es 11))), .iface 235 (.pointer (some (errAt es 12))), .iface 235 (.pointer (some (errAt es 13))), .iface 235 (.pointer (some (errAt es 14))), .iface 235 (.pointer (some (errAt es 15))), .iface 235 (.pointer (some (errAt es 16))), .iface 235 (.pointer (some (errAt es 17))), .iface 235 (.pointer (some (errAt es 18))), .iface 235 (.pointer (some (errAt es 19)))])] [] [LoadsAs Tryd.prog 24 (⟨0, 0, none⟩) (.iface 235 (.pointer (some (errAt es 1)))) w_1, LoadsAs Tryd.prog 24 (⟨6, 0, none⟩) (.iface 235 (.pointer (some (errAt es 2)))) w_1, LoadsAs Tryd.prog 24 (⟨7, 0, none⟩) (.iface 235 (.pointer (some (errAt es 3)))) w_1, LoadsAs Tryd.prog 24 (⟨8, 0, none⟩) (.iface 235 (.pointer (some (errAt es 4)))) w_1, LoadsAs Tryd.prog 24 (⟨5, 0, none⟩) (.iface 235 (.pointer (some (errAt es 5)))) w_1, LoadsAs Tryd.prog 24 (⟨4, 0, none⟩) (.iface 235 (.pointer (some (errAt es 6)))) w_1, LoadsAs Tryd.prog 24 (⟨1, 0, none⟩) (.iface 235 (.pointer (some (errAt es 7)))) w_1, LoadsAs Tryd.prog 24 (⟨2, 0, none⟩) (.iface 235 (.pointer (some (errAt es 8)))) w_1, LoadsAs Tryd.prog 24 (⟨9, 0, none⟩) (.iface 235 (.pointer (some (errAt es 9)))) w_1, LoadsAs Tryd.prog 24 (⟨10, 0, none⟩) (.iface 235 (.pointer (some (errAt es 10)))) w_1, LoadsAs Tryd.prog 24 (⟨11, 0, none⟩) (.iface 235 (.pointer (some (errAt es 11)))) w_1, LoadsAs Tryd.prog 24 (⟨12, 0, none⟩) (.iface 235 (.pointer (some (errAt es 12)))) w_1, LoadsAs Tryd.prog 24 (⟨13, 0, none⟩) (.iface 235 (.pointer (some (errAt es 13)))) w_1, LoadsAs Tryd.prog 24 (⟨14, 0, none⟩) (.iface 235 (.pointer (some (errAt es 14)))) w_1, LoadsAs Tryd.prog 24 (⟨15, 0, none⟩) (.iface 235 (.pointer (some (errAt es 15)))) w_1, LoadsAs Tryd.prog 24 (⟨16, 0, none⟩) (.iface 235 (.pointer (some (errAt es 16)))) w_1, LoadsAs Tryd.prog 24 (⟨17, 0, none⟩) (.iface 235 (.pointer (some (errAt es 17)))) w_1, LoadsAs Tryd.prog 24 (⟨3, 0, none⟩) (.iface 235 (.pointer (some (errAt es 18)))) w_1, LoadsAs Tryd.prog 24 (⟨18, 0, none⟩) (.iface 235 (.pointer (some (errAt es 19)))) w_1] ⟨loads1 rfl ((hb_2.cell (World.block_lt_of_cell? _ _ (h.load 1 0 (by decide) (by decide) rfl))).trans (h.load 1 0 (by decide) (by decide) rfl)), loads1 rfl ((hb_2.cell (World.block_lt_of_cell? _ _ (h.load 2 6 (by decide) (by decide) rfl))).trans (h.load 2 6 (by decide) (by decide) rfl)), loads1 rfl ((hb_2.cell (World.block_lt_of_cell? _ _ (h.load 3 7 (by decide) (by decide) rfl))).trans (h.load 3 7 (by decide) (by decide) rfl)), loads1 rfl ((hb_2.cell (World.block_lt_of_cell? _ _ (h.load 4 8 (by decide) (by decide) rfl))).trans (h.load 4 8 (by decide) (by decide) rfl)), loads1 rfl ((hb_2.cell (World.block_lt_of_cell? _ _ (h.load 5 5 (by decide) (by decide) rfl))).trans (h.load 5 5 (by decide) (by decide) rfl)), loads1 rfl ((hb_2.cell (World.block_lt_of_cell? _ _ (h.load 6 4 (by decide) (by decide) rfl))).trans (h.load 6 4 (by decide) (by decide) rfl)), loads1 rfl ((hb_2.cell (World.block_lt_of_cell? _ _ (h.load 7 1 (by decide) (by decide) rfl))).trans (h.load 7 1 (by decide) (by decide) rfl)), loads1 rfl ((hb_2.cell (World.block_lt_of_cell? _ _ (h.load 8 2 (by decide) (by decide) rfl))).trans (h.load 8 2 (by decide) (by decide) rfl)), loads1 rfl ((hb_2.cell (World.block_lt_of_cell? _ _ (h.load 9 9 (by decide) (by decide) rfl))).trans (h.load 9 9 (by decide) (by decide) rfl)), loads1 rfl ((hb_2.cell (World.block_lt_of_cell? _ _ (h.load 10 10 (by decide) (by decide) rfl))).trans (h.load 10 10 (by decide) (by decide) rfl)), loads1 rfl ((hb_2.cell (World.block_lt_of_cell? _ _ (h.load 11 11 (by decide) (by decide) rfl))).trans (h.load 11 11 (by decide) (by decide) rfl)), loads1 rfl ((hb_2.cell (World.block_lt_of_cell? _ _ (h.load 12 12 (by decide) (by decide) rfl))).trans (h.load 12 12 (by decide) (by decide) rfl)), loads1 rfl ((hb_2.cell (World.block_lt_of_cell? _ _ (h.load 13 13 (by decide) (by decide) rfl))).trans (h.load 13 13 (by decide) (by decide) rfl)), loads1 rfl ((hb_2.cell (World.block_lt_of_cell? _ _ (h.load 14 14 (by decide) (by decide) rfl))).trans (h.load 14 14 (by decide) (by decide) rfl)), loads1 rfl ((hb_2.cell (World.block_lt_of_cell? _ _ (h.load 15 15 (by decide) (by decide) rfl))).trans (h.load 15 15 (by decide) (by decide) rfl)), loads1 rfl ((hb_2.cell (World.block_lt_of_cell? _ _ (h.load 16 16 (by decide) (by decide) rfl))).trans (h.load 16 16 (by decide) (by decide) rfl)), loads1 rfl ((hb_2.cell (World.block_lt_of_cell? _ _ (h.load 17 17 (by decide) (by decide) rfl))).trans (h.load 17 17 (by decide) (by decide) rfl)), loads1 rfl ((hb_2.cell (World.block_lt_of_cell? _ _ (h.load 18 3 (by decide) (by decide) rfl))).trans (h.load 18 3 (by decide) (by decide) rfl)), loads1 rfl ((hb_2.cell (World.block_lt_of_cell? _ _ (h.load 19 18 (by decide) (by decide) rfl))).trans (h.load 19 18 (by decide) (by decide) rfl)), trivial⟩ ?_)))
 refine xst (.agg #[.iface 235 (.pointer (some (errAt es 1))), .iface 235 (.pointer (some (errAt es 2))), .iface 235 (.pointer (some (errAt es 3))), .iface 235 (.pointer (some (errAt es 4))), .iface 235 (.pointer (some (errAt es 5))), .iface 235 (.pointer (some (errAt es 6))), .iface 235 (.pointer (some (errAt es 7))), .iface 235 (.pointer (some (errAt es 8))), .iface 235 (.pointer (some (errAt es 9))), .iface 235 (.pointer (some (errAt es 10))), .iface 235 (.pointer (some (errAt es 11))), .iface 235 (.pointer (some (errAt es 12))), .iface 235 (.pointer (some (errAt es 13))), .iface 235 (.pointer (some (errAt es 14))), .iface 235 (.pointer (some (errAt es 15))), .iface 235 (.pointer (some (errAt es 16))), .iface 235 (.pointer (some (errAt es 17))), .iface 235 (.pointer (some (errAt es 18))), .iface 235 (.pointer (some (errAt es 19)))]) hk_3 0 #[.iface 235 (.pointer (some (errAt es 1))), .iface 235 (.pointer (some (errAt es 2))), .iface 235 (.pointer (some (errAt es 3))), .iface 235 (.pointer (some (errAt es 4))), .iface 235 (.pointer (some (errAt es 5))), .iface 235 (.pointer (some (errAt es 6))), .iface 235 (.pointer (some (errAt es 7))), .iface 235 (.pointer (some (errAt es 8))), .iface 235 (.pointer (some (errAt es 9))), .iface 235 (.pointer (some (errAt es 10))), .iface 235 (.pointer (some (errAt es 11))), .iface 235 (.pointer (some (errAt es 12))), .iface 235 (.pointer (some (errAt es 13))), .iface 235 (.pointer (some (errAt es 14))), .iface 235 (.pointer (some (errAt es 15))), .iface 235 (.pointer (some (errAt es 16))), .iface 235 (.pointer (some (errAt es 17))), .iface 235 (.pointer (some (errAt es 18))), .iface 235 (.pointer (some (errAt es 19)))] (fun w_6 hg_7 hk_8 hz_9 => ?_)
 refine nl (X_ret (RX.ret_cell (P := Tryd.prog) (fn := Tryd.f89) (N := 21) (R := R_) (c := 0) (t := 149) (p := ⟨w.heap.size, 0, none⟩) (v := .agg #[.iface 235 (.pointer (some (errAt es 1))), .iface 235 (.pointer (some (errAt es 2))), .iface 235 (.pointer (some (errAt es 3))), .iface 235 (.pointer (some (errAt es 4))), .iface 235 (.pointer (some (errAt es 5))), .iface 235 (.pointer (some (errAt es 6))), .iface 235 (.pointer (some (errAt es 7))), .iface 235 (.pointer (some (errAt es 8))), .iface 235 (.pointer (some (errAt es 9))), .iface 235 (.pointer (some (errAt es 10))), .iface 235 (.pointer (some (errAt es 11))), .iface 235 (.pointer (some (errAt es 12))), .iface 235 (.pointer (some (errAt es 13))), .iface 235 (.pointer (some (errAt es 14))), .iface 235 (.pointer (some (errAt es 15))), .iface 235 (.pointer (some (errAt es 16))), .iface 235 (.pointer (some (errAt es 17))), .iface 235 (.pointer (some (errAt es 18))), .iface 235 (.pointer (some (errAt es 19)))]) rfl rfl (loadsB rfl rfl hk_8 0 ⟨by kernel_rfl, by kernel_rfl⟩) (hR_ _ _ ?_)))
 exact ⟨rfl, (bg hb_2 hg_7 (Nat.le_refl _))⟩
theorem num_nil (w : World) : Calls Tryd.prog 18 #[.nilIface] w fun e w' => e = .returned (.int .i64 0) ∧ Below w.heap.size w w' := by
 refine RX.enter Tryd.func18 rfl 18 rfl [(0, .nilIface)] rfl (by kernel_rfl) (fun R_ hR_ => ?_)
 refine sq (rg (xe0 1 [(0, .nilIface)] ?_))
 refine nl (sq (sq (rg (xr0 2 [(6, .bool true)] [] ?_))))
 refine nl (ct (sq (rg (xe0 1 [(2, .int .i64 0)] ?_))))
 refine nl (X_ret (rk [.int .i64 0] (hR_ _ _ ?_)))
 exact ⟨rfl, (Below.refl _ _)⟩
theorem num_err (es : List Addr) (n : Nat) (hn : 0 < n) (hn' : n ≤ 19) (w : World) (h : Errs w es) : Calls Tryd.prog 18 #[.iface 235 (.pointer (some (errAt es n)))] w fun e w' => e = .returned (.int .i64 (n : Int)) ∧ Below w.heap.size w w' := by
 refine RX.enter Tryd.func18 rfl 18 rfl [(0, .iface 235 (.pointer (some (errAt es n))))] rfl (by kernel_rfl) (fun R_ hR_ => ?_)
 refine sq (rg (xe0 1 [(0, .iface 235 (.pointer (some (errAt es n))))] ?_))
 refine nl (sq (sq (rg (xr0 2 [(6, .bool false)] [] ?_))))
 refine nl (cf (sk (sq (sq (rg (xc 89 ent89 [] (list_any es _ (h.below (Below.refl _ _))) ?_))))))
 rintro e w_1 ⟨rfl, hb_2⟩; refine ⟨_, rfl, ?_⟩
 refine xr0 1 [(7, .agg (errAgg es)), (8, .int .i64 0)] [6] ?_
 refine nl (bk (X_loop (ι := Nat) (fun i => [(0, .iface 235 (.pointer (some (errAt es n)))), (7, .agg (errAgg es)), (8, .int .i64 (i : Int))]) (fun i wl => i < n ∧ Below w.heap.size w wl) (fun i => n - i) 0 ⟨by omega, hb_2⟩ (by kernel_rfl) ?_))
 rintro i wl ⟨hi, HB⟩
 refine sq (X_region ?_)
 by_cases c_3 : (i : Int) < 19
 ·refine xr 1 [(9, .eq (.bool true))] [(9, .bool true)] [] [Value.bool (decide ((i : Int) < 19)) = Value.bool true] ⟨congrArg Value.bool (decide_eq_true (c_3)), trivial⟩ ?_
  refine nl (sq (ct (sk (sq (bk (sq (rg (xr 4 [(11, .as (.iface 235 (.pointer (some (errAt es (i + 1))))))] [(3, nv i), (4, .iface 235 (.pointer (some (errAt es (i + 1)))))] [9] [RunsAs Tryd.prog [(7, .agg (errAgg es)), (8, .int .i64 (i : Int))] (Go.Op.index 149 (Go.Operand.tmp 7) (Go.Operand.tmp 8)) 24 (.iface 235 (.pointer (some (errAt es (i + 1))))) wl] ⟨runs_index rfl rfl (err_index es i (by omega) _), trivial⟩ ?_))))))))
  refine nl (sq (rg (xr0 2 [(12, .iface 235 (.pointer (some (errAt es n)))), (13, .iface 235 (.pointer (some (errAt es (i + 1)))))] [4] ?_)))
  by_cases c_4 : n = i + 1
  ·refine xr 1 [(14, .as (.bool true))] [(14, .bool true)] [12, 13] [RunsAs Tryd.prog [(12, .iface 235 (.pointer (some (errAt es n)))), (13, .iface 235 (.pointer (some (errAt es (i + 1)))))] (Go.Op.binOp Go.BinOp.eql 24 (Go.Operand.tmp 12) (Go.Operand.tmp 13) 24) 4 (.bool true) wl] ⟨runs_bin rfl rfl rfl (by have h := (h.below HB).eql (n := n) (m := i + 1) (by omega) (by omega) (by omega) (by omega); rw [decide_eq_true c_4] at h; exact h), trivial⟩ ?_
   refine nl (ct (sq (rg (xe 3 [(16, .eq (.int .i64 ((i : Int) + 1)))] [(2, .int .i64 ((i : Int) + 1))] [Value.int .i64 (IntKind.i64.wrap ((i : Int) + 1)) = Value.int .i64 ((i : Int) + 1)] ⟨wr_i64 (by omega) (by omega), trivial⟩ ?_))))
   refine nl (X_ret (rk [.int .i64 ((i : Int) + 1)] (hR_ _ _ ?_)))
   exact ⟨ret_int (by omega), HB⟩
  refine xr 1 [(14, .as (.bool false))] [(14, .bool false)] [12, 13] [RunsAs Tryd.prog [(12, .iface 235 (.pointer (some (errAt es n)))), (13, .iface 235 (.pointer (some (errAt es (i + 1)))))] (Go.Op.binOp Go.BinOp.eql 24 (Go.Operand.tmp 12) (Go.Operand.tmp 13) 24) 4 (.bool false) wl] ⟨runs_bin rfl rfl rfl (by have h := (h.below HB).eql (n := n) (m := i + 1) (by omega) (by omega) (by omega) (by omega); rw [decide_eq_false c_4] at h; exact h), trivial⟩ ?_
  refine nl (cf (sk (rg (xr 2 [(17, .eq (.int .i64 ((i : Int) + 1)))] [(8, .int .i64 ((i : Int) + 1))] [3, 14] [Value.int .i64 (IntKind.i64.wrap ((i : Int) + 1)) = Value.int .i64 ((i : Int) + 1)] ⟨wr_i64 (by omega) (by omega), trivial⟩ ?_))))
  refine nl ?_
  refine ⟨(i + 1), by kernel_rfl, ?_, ?_⟩
  ·exact ⟨by omega, HB⟩
  (try dsimp only); omega
 exfalso; omega
theorem num_any (es : List Addr) (n : Nat) (hn : n ≤ 19) (w : World) (h : Errs w es) : Calls Tryd.prog 18 #[errV es n] w fun e w' => e = .returned (.int .i64 (n : Int)) ∧ Below w.heap.size w w' := by
 by_cases h0 : n = 0
 ·subst h0
  exact num_nil w
 rw [errV_pos _ _ (by omega)]
 exact num_err es n (by omega) hn w h
end Go.Proofs.YtkehomiogkoomaaDoor
