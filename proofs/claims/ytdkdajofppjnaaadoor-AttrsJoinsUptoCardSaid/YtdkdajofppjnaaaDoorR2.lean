/- What the reference's joins of patches answer. Conditions: sizes, lengths, the tables of utf8; good lists for the inner ones. -/
import Derived.Test.YtdkdajofppjnaaaDoorR1
import Derived.Test.YtdkdajofppjnaaaDoorRef3
import Derived.Test.YtdkdajofppjnaaaDoorCap2
set_option linter.unusedVariables false
set_option linter.unusedSimpArgs false
set_option maxRecDepth 100000
namespace Go.Proofs.YtdkdajofppjnaaaDoor
open Go Go.RowKit Go.Proofs.YtdkdajofppjnaaaDoorW.PrintWords RX
theorem ent30 : Ent Tryd.prog 30 := ent_of Tryd.func30 (by kernel_rfl) rfl
theorem ent46 : Ent Tryd.prog 46 := ent_of Tryd.func46 (by kernel_rfl) rfl
theorem ent47 : Ent Tryd.prog 47 := ent_of Tryd.func47 (by kernel_rfl) rfl
theorem ent18 : Ent Tryd.prog 18 := ent_of Tryd.func18 (by kernel_rfl) rfl
theorem ent48 : Ent Tryd.prog 48 := ent_of Tryd.func48 (by kernel_rfl) rfl
theorem ent20 : Ent Tryd.prog 20 := ent_of Tryd.func20 (by kernel_rfl) rfl
theorem ent49 : Ent Tryd.prog 49 := ent_of Tryd.func49 (by kernel_rfl) rfl
theorem ent21 : Ent Tryd.prog 21 := ent_of Tryd.func21 (by kernel_rfl) rfl
theorem ent50 : Ent Tryd.prog 50 := ent_of Tryd.func50 (by kernel_rfl) rfl
theorem ent22 : Ent Tryd.prog 22 := ent_of Tryd.func22 (by kernel_rfl) rfl
theorem ent35 : Ent Tryd.prog 35 := ent_of Tryd.func35 (by kernel_rfl) rfl
theorem ent23 : Ent Tryd.prog 23 := ent_of Tryd.func23 (by kernel_rfl) rfl
theorem r3both_any (A B : Option Addr) (c d : Nat) (xs ys : List At) (w : World) (hx : kAttr.C w A xs.length xs) (hy : kAttr.C w B ys.length ys) (na nb : Bool) (hsx : (∀ i, i < xs.length → (xs.getD i at0).1.size ≤ 100000000 ∧ (xs.getD i at0).2.2.2.size ≤ 100000000)) (hsy : (∀ i, i < ys.length → (ys.getD i at0).1.size ≤ 100000000 ∧ (ys.getD i at0).2.2.2.size ≤ 100000000)) (hT : Tabs w) :
    Calls Tryd.prog 45 #[.slice A xs.length c, .slice B ys.length d, .bool na, .bool nb] w fun e w' => e = .returned (.int .i64 (chk2 na xs nb ys : Int)) ∧ Below w.heap.size w w' := by
  refine RX.enter Tryd.func45 rfl 19 rfl [(0, .slice A xs.length c), (1, .slice B ys.length d), (2, .bool na), (3, .bool nb)] rfl (by kernel_rfl) (fun R_ hR_ => ?_)
  refine X_seq ?_
  refine X_region ?_
  refine XL_run 1 [] [(0, .slice A xs.length c), (1, .slice B ys.length d), (2, .bool na), (3, .bool nb)] w [] (by kernel_rfl) trivial ?_
  refine XL_nil ?_
  refine X_seq ?_
  refine X_region ?_
  refine XL_run 2 [] [(1, .slice B ys.length d), (3, .bool nb), (10, .slice A xs.length c), (11, .bool na)] w [] (by kernel_rfl) trivial ?_
  refine XL_call 27 rfl rfl rfl ent27 [.slice A xs.length c, .bool na] (by kernel_rfl) (r3check_any _ _ xs na _ hx hsx (hT.below (Below.refl _ _))) ?_
  rintro e w_1 ⟨rfl, hb_2⟩; refine ⟨_, rfl, ?_⟩
  refine XL_run 1 [] [(1, .slice B ys.length d), (3, .bool nb), (9, .int .i64 (chkA na xs : Int))] w_1 [] (by kernel_rfl) trivial ?_
  refine XL_nil ?_
  refine X_seq ?_
  refine X_seq ?_
  refine X_region ?_
  refine XL_run 1 [] [(1, .slice B ys.length d), (3, .bool nb), (9, .int .i64 (chkA na xs : Int)), (13, .int .i64 (chkA na xs : Int))] w_1 [] (by kernel_rfl) trivial ?_
  by_cases c_3 : (chkA na xs : Int) = 0
  · refine XL_run 1 [(14, .eq (.bool false))] [(1, .slice B ys.length d), (3, .bool nb), (9, .int .i64 (chkA na xs : Int)), (14, .bool false)] w_1 [Value.bool ((chkA na xs : Int) != 0) = Value.bool false] (by kernel_rfl) ⟨congrArg Value.bool (bneF (c_3)), trivial⟩ ?_
    refine XL_nil ?_
    refine X_cond false rfl ?_
    refine X_skip ?_
    refine X_seq ?_
    refine X_region ?_
    refine XL_run 2 [] [(16, .slice B ys.length d), (17, .bool nb)] w_1 [] (by kernel_rfl) trivial ?_
    refine XL_call 27 rfl rfl rfl ent27 [.slice B ys.length d, .bool nb] (by kernel_rfl) (r3check_any _ _ ys nb _ (Kd.C_below hy hb_2) hsy (hT.below hb_2)) ?_
    rintro e w_4 ⟨rfl, hb_5⟩; refine ⟨_, rfl, ?_⟩
    refine XL_run 1 [] [(8, .int .i64 (chkA nb ys : Int))] w_4 [] (by kernel_rfl) trivial ?_
    refine XL_nil ?_
    refine X_ret ?_
    refine RX.ret_ok (P := Tryd.prog) (fn := Tryd.f45) (N := 19) (R := R_) [.int .i64 (chkA nb ys : Int)] (by kernel_rfl) (hR_ _ _ ?_)
    rw [show (chk2 na xs nb ys : Int) = (chkA nb ys : Int) from by unfold chk2; split <;> omega]
    exact ⟨rfl, (bt hb_2 hb_5)⟩
  · refine XL_run 1 [(14, .eq (.bool true))] [(1, .slice B ys.length d), (3, .bool nb), (9, .int .i64 (chkA na xs : Int)), (14, .bool true)] w_1 [Value.bool ((chkA na xs : Int) != 0) = Value.bool true] (by kernel_rfl) ⟨congrArg Value.bool (bneT (c_3)), trivial⟩ ?_
    refine XL_nil ?_
    refine X_cond true rfl ?_
    refine X_seq ?_
    refine X_region ?_
    refine XL_run 2 [] [(8, .int .i64 (chkA na xs : Int))] w_1 [] (by kernel_rfl) trivial ?_
    refine XL_nil ?_
    refine X_ret ?_
    refine RX.ret_ok (P := Tryd.prog) (fn := Tryd.f45) (N := 19) (R := R_) [.int .i64 (chkA na xs : Int)] (by kernel_rfl) (hR_ _ _ ?_)
    rw [show (chk2 na xs nb ys : Int) = (chkA na xs : Int) from by unfold chk2; split <;> omega]
    exact ⟨rfl, hb_2⟩
theorem has_any (A : Option Addr) (c : Nat) (xs : List At) (k : ByteArray) (w : World) (hx : kAttr.C w A xs.length xs) :
    Calls Tryd.prog 30 #[.slice A xs.length c, .string k] w fun e w' => e = .returned (.tuple #[.agg #[.int .i64 (gv xs k).1, .int .i64 (gv xs k).2.1, .string (gv xs k).2.2], .bool (get xs k).isSome]) ∧ Below w.heap.size w w' := by
  have hpl : xs.length ≤ 9223372036854775807 := hx.2.1
  refine RX.enter Tryd.func30 rfl 22 rfl [(0, .slice A xs.length c), (1, .string k)] rfl (by kernel_rfl) (fun R_ hR_ => ?_)
  refine X_seq ?_
  refine X_region ?_
  refine XL_run 1 [] [(0, .slice A xs.length c), (1, .string k), (4, .pointer (some ⟨w.heap.size, 0, none⟩))] (w.alloc (.cells #[.int .i64 0, .int .i64 0, .string ByteArray.empty] 43)) [] (by kernel_rfl) trivial ?_
  obtain ⟨w_1, hw_5, hb_2, hk_3, hz_4⟩ := new_world w #[.int .i64 0, .int .i64 0, .string ByteArray.empty] 43
  rw [hw_5]
  refine XL_run 1 [] [(0, .slice A xs.length c), (1, .string k), (4, .pointer (some ⟨w.heap.size, 0, none⟩))] w_1 [] (by kernel_rfl) trivial ?_
  refine XL_nil ?_
  refine X_seq ?_
  refine X_seq ?_
  refine X_region ?_
  refine XL_run 3 [] [(1, .string k), (4, .pointer (some ⟨w.heap.size, 0, none⟩)), (8, .slice A xs.length c), (9, .int .i64 (xs.length : Int)), (10, .int .i64 0)] w_1 [] (by kernel_rfl) trivial ?_
  refine XL_nil ?_
  refine X_block ?_
  refine X_loop (ι := Nat) (fun i => [(1, .string k), (4, .pointer (some ⟨w.heap.size, 0, none⟩)), (8, .slice A xs.length c), (9, .int .i64 (xs.length : Int)), (10, .int .i64 (i : Int))]) (fun i wl => i ≤ xs.length ∧ (∀ j, j < i → ¬ (xs.getD j at0).1 = k) ∧ Below w_1.heap.size w_1 wl) (fun i => xs.length - i) 0 ⟨by omega, fun j hj => by omega, Below.refl _ _⟩ (by kernel_rfl) ?_
  rintro i wl ⟨hi, hq, HB⟩
  refine X_seq ?_
  refine X_region ?_
  by_cases c_6 : (i : Int) < (xs.length : Int)
  · refine XL_run 1 [(11, .eq (.bool true))] [(1, .string k), (4, .pointer (some ⟨w.heap.size, 0, none⟩)), (8, .slice A xs.length c), (9, .int .i64 (xs.length : Int)), (10, .int .i64 (i : Int)), (11, .bool true)] wl [Value.bool (decide ((i : Int) < (xs.length : Int))) = Value.bool true] (by kernel_rfl) ⟨congrArg Value.bool (decide_eq_true (c_6)), trivial⟩ ?_
    refine XL_nil ?_
    refine X_seq ?_
    refine X_cond true rfl ?_
    refine X_skip ?_
    refine X_seq ?_
    refine X_block ?_
    refine X_seq ?_
    refine X_region ?_
    obtain ⟨ad_7, ha_8, hc_9⟩ := Kd.atAttr (Kd.C_below hx (bt hb_2 HB)) (i := (i : Int)) (by omega) (by omega)
    replace hc_9 : CellsAt wl (ad_7.add ((i : Int).toNat * 4)) [.string ((xs.getD i at0).1), .int .i64 ((xs.getD i at0).2.1), .int .i64 ((xs.getD i at0).2.2.1), .string ((xs.getD i at0).2.2.2)] := hc_9
    refine XL_run 3 [(12, .idx ad_7), (13, .load (.agg #[.string ((xs.getD i at0).1), .int .i64 ((xs.getD i at0).2.1), .int .i64 ((xs.getD i at0).2.2.1), .string ((xs.getD i at0).2.2.2)]))] [(1, .string k), (4, .pointer (some ⟨w.heap.size, 0, none⟩)), (7, .pointer (some ⟨wl.heap.size, 0, none⟩)), (8, .slice A xs.length c), (9, .int .i64 (xs.length : Int)), (10, .int .i64 (i : Int)), (13, .agg #[.string ((xs.getD i at0).1), .int .i64 ((xs.getD i at0).2.1), .int .i64 ((xs.getD i at0).2.2.1), .string ((xs.getD i at0).2.2.2)])] (wl.alloc (.cells #[.string ByteArray.empty, .int .i64 0, .int .i64 0, .string ByteArray.empty] 55)) [A = some ad_7, (0 : Int) ≤ (i : Int), (i : Int) < (xs.length : Int), LoadsAs Tryd.prog 55 (ad_7.add ((i : Int).toNat * 4)) (.agg #[.string ((xs.getD i at0).1), .int .i64 ((xs.getD i at0).2.1), .int .i64 ((xs.getD i at0).2.2.1), .string ((xs.getD i at0).2.2.2)]) wl] (by kernel_rfl) ⟨ha_8, (by omega), (by omega), loadsE rfl rfl hc_9 0 ⟨by kernel_rfl, by kernel_rfl⟩, trivial⟩ ?_
    obtain ⟨w_10, hw_14, hb_11, hk_12, hz_13⟩ := new_world wl #[.string ByteArray.empty, .int .i64 0, .int .i64 0, .string ByteArray.empty] 55
    rw [hw_14]
    refine XL_store (v := .agg #[.string ((xs.getD i at0).1), .int .i64 ((xs.getD i at0).2.1), .int .i64 ((xs.getD i at0).2.2.1), .string ((xs.getD i at0).2.2.2)]) rfl rfl rfl (by kernel_rfl) hk_12 0 [.string ((xs.getD i at0).1), .int .i64 ((xs.getD i at0).2.1), .int .i64 ((xs.getD i at0).2.2.1), .string ((xs.getD i at0).2.2.2)] #[.string ((xs.getD i at0).1), .int .i64 ((xs.getD i at0).2.1), .int .i64 ((xs.getD i at0).2.2.1), .string ((xs.getD i at0).2.2.2)] ⟨by kernel_rfl, rfl, by kernel_rfl⟩ ⟨by kernel_rfl, by kernel_rfl⟩ (Nat.le_of_ble_eq_true (by kernel_rfl)) (fun w_15 hg_16 hk_17 hz_18 => ?_)
    refine XL_nil ?_
    refine X_seq ?_
    refine X_region ?_
    refine XL_run 3 [(15, .load (.string ((xs.getD i at0).1)))] [(1, .string k), (4, .pointer (some ⟨w.heap.size, 0, none⟩)), (7, .pointer (some ⟨wl.heap.size, 0, none⟩)), (8, .slice A xs.length c), (9, .int .i64 (xs.length : Int)), (10, .int .i64 (i : Int)), (15, .string ((xs.getD i at0).1)), (16, .string k)] w_15 [LoadsAs Tryd.prog 9 (⟨wl.heap.size, 0, none⟩) (.string ((xs.getD i at0).1)) w_15] (by kernel_rfl) ⟨loads1 rfl (Blk.cell hk_17 0 _ rfl), trivial⟩ ?_
    by_cases c_19 : ((xs.getD i at0).1) = k
    · refine XL_run 1 [(17, .eq (.bool true))] [(1, .string k), (4, .pointer (some ⟨w.heap.size, 0, none⟩)), (7, .pointer (some ⟨wl.heap.size, 0, none⟩)), (8, .slice A xs.length c), (9, .int .i64 (xs.length : Int)), (10, .int .i64 (i : Int)), (17, .bool true)] w_15 [Value.bool (((xs.getD i at0).1).toList == k.toList) = Value.bool true] (by kernel_rfl) ⟨congrArg Value.bool (strEqT (c_19)), trivial⟩ ?_
      refine XL_nil ?_
      refine X_cond true rfl ?_
      refine X_seq ?_
      refine X_region ?_
      refine XL_run 2 [(19, .load (.agg #[.int .i64 ((xs.getD i at0).2.1), .int .i64 ((xs.getD i at0).2.2.1), .string ((xs.getD i at0).2.2.2)]))] [(4, .pointer (some ⟨w.heap.size, 0, none⟩)), (19, .agg #[.int .i64 ((xs.getD i at0).2.1), .int .i64 ((xs.getD i at0).2.2.1), .string ((xs.getD i at0).2.2.2)])] w_15 [LoadsAs Tryd.prog 43 (⟨wl.heap.size, 1, none⟩) (.agg #[.int .i64 ((xs.getD i at0).2.1), .int .i64 ((xs.getD i at0).2.2.1), .string ((xs.getD i at0).2.2.2)]) w_15] (by kernel_rfl) ⟨loadsB rfl rfl hk_17 1 ⟨by kernel_rfl, by kernel_rfl⟩, trivial⟩ ?_
      refine XL_store (v := .agg #[.int .i64 ((xs.getD i at0).2.1), .int .i64 ((xs.getD i at0).2.2.1), .string ((xs.getD i at0).2.2.2)]) rfl rfl rfl (by kernel_rfl) (Blk.below hk_3 (bg (bt HB hb_11) hg_16 (HB).size)) 0 [.int .i64 ((xs.getD i at0).2.1), .int .i64 ((xs.getD i at0).2.2.1), .string ((xs.getD i at0).2.2.2)] #[.int .i64 ((xs.getD i at0).2.1), .int .i64 ((xs.getD i at0).2.2.1), .string ((xs.getD i at0).2.2.2)] ⟨by kernel_rfl, rfl, by kernel_rfl⟩ ⟨by kernel_rfl, by kernel_rfl⟩ (Nat.le_of_ble_eq_true (by kernel_rfl)) (fun w_20 hg_21 hk_22 hz_23 => ?_)
      refine XL_run 1 [] [(4, .pointer (some ⟨w.heap.size, 0, none⟩)), (5, .bool true)] w_20 [] (by kernel_rfl) trivial ?_
      refine XL_nil ?_
      refine X_ret ?_
      refine RX.ret_cellT (P := Tryd.prog) (fn := Tryd.f30) (N := 22) (R := R_) (c := 4) (t := 43) (p := ⟨w.heap.size, 0, none⟩) (v := .agg #[.int .i64 ((xs.getD i at0).2.1), .int .i64 ((xs.getD i at0).2.2.1), .string ((xs.getD i at0).2.2.2)]) (b := 5) (u := .bool true) rfl rfl (loadsB rfl rfl hk_22 0 ⟨by kernel_rfl, by kernel_rfl⟩) rfl (hR_ _ _ ?_)
      have hg := get_at (show i < xs.length from by omega) hq c_19
      have hB_24 : Below w.heap.size w w_20 := (bg (bg (bt (bt hb_2 HB) hb_11) hg_16 ((bt hb_2 HB)).size) hg_21 (Nat.le_refl _))
      refine ⟨?_, hB_24⟩
      unfold gv; rw [hg]; rfl
    · refine XL_run 1 [(17, .eq (.bool false))] [(1, .string k), (4, .pointer (some ⟨w.heap.size, 0, none⟩)), (7, .pointer (some ⟨wl.heap.size, 0, none⟩)), (8, .slice A xs.length c), (9, .int .i64 (xs.length : Int)), (10, .int .i64 (i : Int)), (17, .bool false)] w_15 [Value.bool (((xs.getD i at0).1).toList == k.toList) = Value.bool false] (by kernel_rfl) ⟨congrArg Value.bool (strEqF (c_19)), trivial⟩ ?_
      refine XL_nil ?_
      refine X_cond false rfl ?_
      refine X_skip ?_
      refine X_region ?_
      refine XL_run 2 [(20, .eq (.int .i64 ((i : Int) + 1)))] [(1, .string k), (4, .pointer (some ⟨w.heap.size, 0, none⟩)), (8, .slice A xs.length c), (9, .int .i64 (xs.length : Int)), (10, .int .i64 ((i : Int) + 1))] w_15 [Value.int .i64 (IntKind.i64.wrap ((i : Int) + 1)) = Value.int .i64 ((i : Int) + 1)] (by kernel_rfl) ⟨wr_i64 (by omega) (by omega), trivial⟩ ?_
      refine XL_nil ?_
      refine ⟨(i + 1), by kernel_rfl, ?_, ?_⟩
      · exact ⟨by omega, fun j hj => by by_cases e : j = i; (· subst e; exact c_19); (· exact hq j (by omega)), (bg (bt HB hb_11) hg_16 (HB).size)⟩
      · (try dsimp only); omega
  · refine XL_run 1 [(11, .eq (.bool false))] [(1, .string k), (4, .pointer (some ⟨w.heap.size, 0, none⟩)), (8, .slice A xs.length c), (9, .int .i64 (xs.length : Int)), (10, .int .i64 (i : Int)), (11, .bool false)] wl [Value.bool (decide ((i : Int) < (xs.length : Int))) = Value.bool false] (by kernel_rfl) ⟨congrArg Value.bool (decide_eq_false (c_6)), trivial⟩ ?_
    refine XL_nil ?_
    refine X_seq ?_
    refine X_cond false rfl ?_
    refine X_exit ?_
    refine X_seq ?_
    refine X_region ?_
    refine XL_run 1 [] [(4, .pointer (some ⟨w.heap.size, 0, none⟩)), (21, .agg #[.int .i64 0, .int .i64 0, .string ByteArray.empty])] wl [] (by kernel_rfl) trivial ?_
    refine XL_store (v := .agg #[.int .i64 0, .int .i64 0, .string ByteArray.empty]) rfl rfl rfl (by kernel_rfl) (Blk.below hk_3 HB) 0 [.int .i64 0, .int .i64 0, .string ByteArray.empty] #[.int .i64 0, .int .i64 0, .string ByteArray.empty] ⟨by kernel_rfl, rfl, by kernel_rfl⟩ ⟨by kernel_rfl, by kernel_rfl⟩ (Nat.le_of_ble_eq_true (by kernel_rfl)) (fun w_25 hg_26 hk_27 hz_28 => ?_)
    refine XL_run 1 [] [(4, .pointer (some ⟨w.heap.size, 0, none⟩)), (5, .bool false)] w_25 [] (by kernel_rfl) trivial ?_
    refine XL_nil ?_
    refine X_ret ?_
    refine RX.ret_cellT (P := Tryd.prog) (fn := Tryd.f30) (N := 22) (R := R_) (c := 4) (t := 43) (p := ⟨w.heap.size, 0, none⟩) (v := .agg #[.int .i64 0, .int .i64 0, .string ByteArray.empty]) (b := 5) (u := .bool false) rfl rfl (loadsB rfl rfl hk_27 0 ⟨by kernel_rfl, by kernel_rfl⟩) rfl (hR_ _ _ ?_)
    have hg := get_end (k := k) (xs := xs) (fun j hj => hq j (by omega))
    refine ⟨?_, (bg (bt hb_2 HB) hg_26 (Nat.le_refl _))⟩
    unfold gv; rw [hg]; rfl
set_option maxHeartbeats 1000000 in
theorem join_any (A B : Option Addr) (c d : Nat) (xs ys : List At) (w : World) (hx : kAttr.C w A xs.length xs) (hy : kAttr.C w B ys.length ys) (rx : Ris xs) (ry : Ris ys) (hyd : ys.length ≤ d) (hn : xs.length + ys.length ≤ 400000000) : Calls Tryd.prog 46 #[.slice A xs.length c, .slice B ys.length d] w fun e w' => ∃ A' c' zs, zs = jn xs ys ∧ zs.length ≤ xs.length + ys.length ∧ e = .returned (.slice A' zs.length c') ∧ zs.length ≤ c' ∧ kAttr.R 55 w' w.heap.size (OkFrom w.heap.size) (.slice A' zs.length c') zs ∧ Below w.heap.size w w' := by
  have hpl : xs.length ≤ 9223372036854775807 := hx.2.1
  have hpl2 : ys.length ≤ 9223372036854775807 := hy.2.1
  have hcl : (jn xs ys).length ≤ xs.length + ys.length := comp_le (cmpF true) xs ys
  refine RX.enter Tryd.func46 rfl 87 rfl [(0, .slice A xs.length c), (1, .slice B ys.length d)] rfl (by kernel_rfl) (fun R_ hR_ => ?_)
  refine X_seq ?_
  refine X_region ?_
  refine XL_run 1 [] [(0, .slice A xs.length c), (1, .slice B ys.length d)] w [] (by kernel_rfl) trivial ?_
  refine XL_nil ?_
  refine X_seq ?_
  refine X_region ?_
  refine XL_run 1 [] [(0, .slice A xs.length c), (1, .slice B ys.length d), (13, .slice (some ⟨w.heap.size, 0, none⟩) 0 0)] (w.alloc (.cells #[] 55)) [] (by kernel_rfl) trivial ?_
  obtain ⟨w_1, hw_5, hb_2, hk_3, hz_4⟩ := new_world w #[] 55
  rw [hw_5]
  refine XL_run 1 [] [(0, .slice A xs.length c), (1, .slice B ys.length d), (5, .slice (some ⟨w.heap.size, 0, none⟩) 0 0)] w_1 [] (by kernel_rfl) trivial ?_
  refine XL_nil ?_
  refine X_seq ?_
  refine X_region ?_
  refine XL_run 1 [] [(0, .slice A xs.length c), (1, .slice B ys.length d), (5, .slice (some ⟨w.heap.size, 0, none⟩) 0 0), (6, .int .i64 0)] w_1 [] (by kernel_rfl) trivial ?_
  refine XL_nil ?_
  refine X_seq ?_
  refine X_seq ?_
  refine X_region ?_
  refine XL_run 3 [] [(1, .slice B ys.length d), (5, .slice (some ⟨w.heap.size, 0, none⟩) 0 0), (6, .int .i64 0), (14, .slice A xs.length c), (15, .int .i64 (xs.length : Int)), (16, .int .i64 0)] w_1 [] (by kernel_rfl) trivial ?_
  refine XL_nil ?_
  refine X_block ?_
  have hr_6 := Kd.R_litB kAttr (W := w) (e := 55) (cs := #[]) [] hk_3 (repsAttr []) (Nat.le_of_ble_eq_true (by kernel_rfl))
  refine X_loop (ι := Nat × Nat × Option Addr × Nat × List At) (fun ⟨j, i, A3, c3, zs3⟩ => [(1, .slice B ys.length d), (5, .slice A3 zs3.length c3), (6, .int .i64 (i : Int)), (14, .slice A xs.length c), (15, .int .i64 (xs.length : Int)), (16, .int .i64 (j : Int))]) (fun ⟨j, i, A3, c3, zs3⟩ wl => j ≤ xs.length ∧ i ≤ ys.length ∧ zs3 ++ jn (xs.drop j) (ys.drop i) = jn xs ys ∧ kAttr.R 55 wl w.heap.size (OkFrom w.heap.size) (.slice A3 zs3.length c3) zs3 ∧ w.heap.size ≤ wl.heap.size ∧ Below w.heap.size w wl) (fun ⟨j, i, A3, c3, zs3⟩ => xs.length - j) (0, 0, (some ⟨w.heap.size, 0, none⟩), 0, []) ⟨by omega, by omega, rfl, hr_6, (hb_2).size, hb_2⟩ (by kernel_rfl) ?_
  rintro ⟨j, i, A3, c3, zs3⟩ wl ⟨hj, hi, he3, hr3, hle3, HB⟩
  have hzl : zs3.length ≤ xs.length + ys.length := by have h_ := congrArg List.length he3; rw [List.length_append] at h_; omega
  refine X_seq ?_
  refine X_region ?_
  by_cases c_7 : (j : Int) < (xs.length : Int)
  · refine XL_run 1 [(17, .eq (.bool true))] [(1, .slice B ys.length d), (5, .slice A3 zs3.length c3), (6, .int .i64 (i : Int)), (14, .slice A xs.length c), (15, .int .i64 (xs.length : Int)), (16, .int .i64 (j : Int)), (17, .bool true)] wl [Value.bool (decide ((j : Int) < (xs.length : Int))) = Value.bool true] (by kernel_rfl) ⟨congrArg Value.bool (decide_eq_true (c_7)), trivial⟩ ?_
    refine XL_nil ?_
    refine X_seq ?_
    refine X_cond true rfl ?_
    refine X_skip ?_
    refine X_seq ?_
    refine X_block ?_
    refine X_seq ?_
    refine X_region ?_
    obtain ⟨ad_8, ha_9, hc_10⟩ := Kd.atAttr (Kd.C_below hx HB) (i := (j : Int)) (by omega) (by omega)
    replace hc_10 : CellsAt wl (ad_8.add ((j : Int).toNat * 4)) [.string ((xs.getD j at0).1), .int .i64 ((xs.getD j at0).2.1), .int .i64 ((xs.getD j at0).2.2.1), .string ((xs.getD j at0).2.2.2)] := hc_10
    refine XL_run 3 [(18, .idx ad_8), (19, .load (.agg #[.string ((xs.getD j at0).1), .int .i64 ((xs.getD j at0).2.1), .int .i64 ((xs.getD j at0).2.2.1), .string ((xs.getD j at0).2.2.2)]))] [(1, .slice B ys.length d), (5, .slice A3 zs3.length c3), (6, .int .i64 (i : Int)), (8, .pointer (some ⟨wl.heap.size, 0, none⟩)), (14, .slice A xs.length c), (15, .int .i64 (xs.length : Int)), (16, .int .i64 (j : Int)), (19, .agg #[.string ((xs.getD j at0).1), .int .i64 ((xs.getD j at0).2.1), .int .i64 ((xs.getD j at0).2.2.1), .string ((xs.getD j at0).2.2.2)])] (wl.alloc (.cells #[.string ByteArray.empty, .int .i64 0, .int .i64 0, .string ByteArray.empty] 55)) [A = some ad_8, (0 : Int) ≤ (j : Int), (j : Int) < (xs.length : Int), LoadsAs Tryd.prog 55 (ad_8.add ((j : Int).toNat * 4)) (.agg #[.string ((xs.getD j at0).1), .int .i64 ((xs.getD j at0).2.1), .int .i64 ((xs.getD j at0).2.2.1), .string ((xs.getD j at0).2.2.2)]) wl] (by kernel_rfl) ⟨ha_9, (by omega), (by omega), loadsE rfl rfl hc_10 0 ⟨by kernel_rfl, by kernel_rfl⟩, trivial⟩ ?_
    obtain ⟨w_11, hw_15, hb_12, hk_13, hz_14⟩ := new_world wl #[.string ByteArray.empty, .int .i64 0, .int .i64 0, .string ByteArray.empty] 55
    rw [hw_15]
    refine XL_store (v := .agg #[.string ((xs.getD j at0).1), .int .i64 ((xs.getD j at0).2.1), .int .i64 ((xs.getD j at0).2.2.1), .string ((xs.getD j at0).2.2.2)]) rfl rfl rfl (by kernel_rfl) hk_13 0 [.string ((xs.getD j at0).1), .int .i64 ((xs.getD j at0).2.1), .int .i64 ((xs.getD j at0).2.2.1), .string ((xs.getD j at0).2.2.2)] #[.string ((xs.getD j at0).1), .int .i64 ((xs.getD j at0).2.1), .int .i64 ((xs.getD j at0).2.2.1), .string ((xs.getD j at0).2.2.2)] ⟨by kernel_rfl, rfl, by kernel_rfl⟩ ⟨by kernel_rfl, by kernel_rfl⟩ (Nat.le_of_ble_eq_true (by kernel_rfl)) (fun w_16 hg_17 hk_18 hz_19 => ?_)
    refine XL_nil ?_
    refine X_seq ?_
    refine X_block ?_
    have hne_20 := rne_new (RX.Kd.R_lt hr3) (Nat.le_refl _)
    refine X_loop (ι := Nat × Option Addr × Nat × List At) (fun ⟨i2, A4, c4, zs4⟩ => [(1, .slice B ys.length d), (5, .slice A4 zs4.length c4), (6, .int .i64 (i2 : Int)), (8, .pointer (some ⟨wl.heap.size, 0, none⟩)), (14, .slice A xs.length c), (15, .int .i64 (xs.length : Int)), (16, .int .i64 (j : Int))]) (fun ⟨i2, A4, c4, zs4⟩ wk => i2 ≤ ys.length ∧ zs4 ++ jn (xs.drop j) (ys.drop i2) = jn xs ys ∧ kAttr.R 55 wk w.heap.size (OkFrom w.heap.size) (.slice A4 zs4.length c4) zs4 ∧ Blk wk wl.heap.size 55 #[.string ((xs.getD j at0).1), .int .i64 ((xs.getD j at0).2.1), .int .i64 ((xs.getD j at0).2.2.1), .string ((xs.getD j at0).2.2.2)] ∧ (∀ k, A4.map (·.block) = some k → k ≠ wl.heap.size) ∧ w.heap.size ≤ wk.heap.size ∧ Below w.heap.size w wk) (fun ⟨i2, A4, c4, zs4⟩ => ys.length - i2) (i, A3, c3, zs3) ⟨by omega, he3, (Kd.R_below hr3 (bg hb_12 hg_17 (Nat.le_refl _))), hk_18, hne_20, ((bg (bt HB hb_12) hg_17 hle3)).size, (bg (bt HB hb_12) hg_17 hle3)⟩ (by kernel_rfl) ?_
    rintro ⟨i2, A4, c4, zs4⟩ wk ⟨hi2, he4, hr4, hk4, hne4, hle4, HB2⟩
    have hzl4 : zs4.length ≤ xs.length + ys.length := by have h_ := congrArg List.length he4; rw [List.length_append] at h_; omega
    refine X_seq ?_
    refine X_seq ?_
    refine X_still (by kernel_rfl) (by kernel_rfl) (fun wd_21 hb_22 hh_23 => ?_)
    refine XS_run 3 [] [.int .i64 (i2 : Int), .slice B ys.length d, .int .i64 (ys.length : Int)] [(1, .slice B ys.length d), (5, .slice A4 zs4.length c4), (6, .int .i64 (i2 : Int)), (8, .pointer (some ⟨wl.heap.size, 0, none⟩)), (14, .slice A xs.length c), (15, .int .i64 (xs.length : Int)), (16, .int .i64 (j : Int)), (20, .int .i64 (i2 : Int)), (22, .int .i64 (ys.length : Int))] [] (by kernel_rfl) (by kernel_rfl) trivial ?_
    by_cases c_24 : (i2 : Int) < (ys.length : Int)
    · refine XS_run 4 [(23, .eq (.bool true))] [.bool true, .bool true, .slice B ys.length d, .int .i64 (i2 : Int)] [(1, .slice B ys.length d), (5, .slice A4 zs4.length c4), (6, .int .i64 (i2 : Int)), (8, .pointer (some ⟨wl.heap.size, 0, none⟩)), (14, .slice A xs.length c), (15, .int .i64 (xs.length : Int)), (16, .int .i64 (j : Int)), (24, .bool true), (25, .slice B ys.length d), (26, .int .i64 (i2 : Int))] [Value.bool (decide ((i2 : Int) < (ys.length : Int))) = Value.bool true] (by kernel_rfl) (by kernel_rfl) ⟨congrArg Value.bool (decide_eq_true (c_24)), trivial⟩ ?_
      obtain ⟨ad_25, ha_26, hc_27⟩ := Kd.atAttr (Kd.C_below hy (bt HB2 hb_22)) (i := (i2 : Int)) (by omega) (by omega)
      replace hc_27 : CellsAt wd_21 (ad_25.add ((i2 : Int).toNat * 4)) [.string ((ys.getD i2 at0).1), .int .i64 ((ys.getD i2 at0).2.1), .int .i64 ((ys.getD i2 at0).2.2.1), .string ((ys.getD i2 at0).2.2.2)] := hc_27
      refine XS_run 5 [(27, .idx ad_25), (29, .load (.string ((ys.getD i2 at0).1))), (31, .load (.string ((xs.getD j at0).1)))] [.pointer (some (ad_25.add ((i2 : Int).toNat * 4))), .pointer (some (ad_25.add ((i2 : Int).toNat * 4))), .string ((ys.getD i2 at0).1), .pointer (some ⟨wl.heap.size, 0, none⟩), .string ((xs.getD j at0).1)] [(1, .slice B ys.length d), (5, .slice A4 zs4.length c4), (6, .int .i64 (i2 : Int)), (8, .pointer (some ⟨wl.heap.size, 0, none⟩)), (14, .slice A xs.length c), (15, .int .i64 (xs.length : Int)), (16, .int .i64 (j : Int)), (24, .bool true), (29, .string ((ys.getD i2 at0).1)), (31, .string ((xs.getD j at0).1))] [B = some ad_25, (0 : Int) ≤ (i2 : Int), (i2 : Int) < (ys.length : Int), LoadsAs Tryd.prog 9 (ad_25.add ((i2 : Int).toNat * 4)) (.string ((ys.getD i2 at0).1)) wd_21, LoadsAs Tryd.prog 9 (⟨wl.heap.size, 0, none⟩) (.string ((xs.getD j at0).1)) wd_21] (by kernel_rfl) (by kernel_rfl) ⟨ha_26, (by omega), (by omega), loads1 rfl (elem_cell hc_27 0 _ rfl), loads1 rfl (Blk.cell (Blk.below hk4 hb_22) 0 _ rfl), trivial⟩ ?_
      by_cases c_28 : (Op.bytesLess ((ys.getD i2 at0).1).toList ((xs.getD j at0).1).toList) = true
      · refine XS_run 2 [(32, .eq (.bool true))] [.bool true, .bool true] [(1, .slice B ys.length d), (5, .slice A4 zs4.length c4), (6, .int .i64 (i2 : Int)), (8, .pointer (some ⟨wl.heap.size, 0, none⟩)), (14, .slice A xs.length c), (15, .int .i64 (xs.length : Int)), (16, .int .i64 (j : Int)), (33, .bool true)] [Value.bool (Op.bytesLess ((ys.getD i2 at0).1).toList ((xs.getD j at0).1).toList) = Value.bool true] (by kernel_rfl) (by kernel_rfl) ⟨congrArg Value.bool (c_28), trivial⟩ ?_
        refine XS_nil ?_
        refine X_cond true rfl ?_
        refine X_skip ?_
        refine X_block ?_
        refine X_seq ?_
        refine X_region ?_
        refine XL_run 3 [] [(1, .slice B ys.length d), (6, .int .i64 (i2 : Int)), (8, .pointer (some ⟨wl.heap.size, 0, none⟩)), (14, .slice A xs.length c), (15, .int .i64 (xs.length : Int)), (16, .int .i64 (j : Int)), (34, .slice A4 zs4.length c4), (35, .slice B ys.length d), (36, .int .i64 (i2 : Int))] wd_21 [] (by kernel_rfl) trivial ?_
        obtain ⟨ad_29, ha_30, hc_31⟩ := Kd.atAttr (Kd.C_below hy (bt HB2 hb_22)) (i := (i2 : Int)) (by omega) (by omega)
        replace hc_31 : CellsAt wd_21 (ad_29.add ((i2 : Int).toNat * 4)) [.string ((ys.getD i2 at0).1), .int .i64 ((ys.getD i2 at0).2.1), .int .i64 ((ys.getD i2 at0).2.2.1), .string ((ys.getD i2 at0).2.2.2)] := hc_31
        refine XL_run 3 [(37, .idx ad_29), (38, .load (.agg #[.string ((ys.getD i2 at0).1), .int .i64 ((ys.getD i2 at0).2.1), .int .i64 ((ys.getD i2 at0).2.2.1), .string ((ys.getD i2 at0).2.2.2)]))] [(1, .slice B ys.length d), (6, .int .i64 (i2 : Int)), (8, .pointer (some ⟨wl.heap.size, 0, none⟩)), (14, .slice A xs.length c), (15, .int .i64 (xs.length : Int)), (16, .int .i64 (j : Int)), (34, .slice A4 zs4.length c4), (39, .slice (some ⟨wd_21.heap.size, 0, none⟩) 1 1)] (wd_21.alloc (.cells #[.string ((ys.getD i2 at0).1), .int .i64 ((ys.getD i2 at0).2.1), .int .i64 ((ys.getD i2 at0).2.2.1), .string ((ys.getD i2 at0).2.2.2)] 55)) [B = some ad_29, (0 : Int) ≤ (i2 : Int), (i2 : Int) < (ys.length : Int), LoadsAs Tryd.prog 55 (ad_29.add ((i2 : Int).toNat * 4)) (.agg #[.string ((ys.getD i2 at0).1), .int .i64 ((ys.getD i2 at0).2.1), .int .i64 ((ys.getD i2 at0).2.2.1), .string ((ys.getD i2 at0).2.2.2)]) wd_21] (by kernel_rfl) ⟨ha_30, (by omega), (by omega), loadsE rfl rfl hc_31 0 ⟨by kernel_rfl, by kernel_rfl⟩, trivial⟩ ?_
        obtain ⟨w_32, hw_36, hb_33, hk_34, hz_35⟩ := new_world wd_21 #[.string ((ys.getD i2 at0).1), .int .i64 ((ys.getD i2 at0).2.1), .int .i64 ((ys.getD i2 at0).2.2.1), .string ((ys.getD i2 at0).2.2.2)] 55
        rw [hw_36]
        rw [← hw_36]
        refine XL_append kAttr rfl rfl rfl w.heap.size 55 (.agg #[.string ByteArray.empty, .int .i64 0, .int .i64 0, .string ByteArray.empty]) 48 Tryd.underlying22 info55 rfl (by decide) (by omega) zs4 ((ys.getD i2 at0).1, (ys.getD i2 at0).2.1, (ys.getD i2 at0).2.2.1, (ys.getD i2 at0).2.2.2) [.string ((ys.getD i2 at0).1), .int .i64 ((ys.getD i2 at0).2.1), .int .i64 ((ys.getD i2 at0).2.2.1), .string ((ys.getD i2 at0).2.2.2)] (fun _ => False) (by kernel_rfl) (kAttr_M _ _ _ _) (fun _ h => h.elim) (Kd.R_below hr4 hb_22) ((bt HB2 hb_22)).size (by first | omega | (simp; omega)) ?_
        intro A_37 c_38 w_39 hr_40 hc_41 hg_42 hl_43 ha_44
        have hk_45 := Blk.ne (Blk.below hk4 hb_22) hg_42 hne4
        have hne_46 := rne_step hne4 ha_44 (Blk.lt (Blk.below hk4 hb_22))
        have he_47 : (zs4 ++ [((ys.getD i2 at0).1, (ys.getD i2 at0).2.1, (ys.getD i2 at0).2.2.1, (ys.getD i2 at0).2.2.2)]) = (zs4 ++ [(ys.getD i2 at0)]) := rfl
        rw [he_47] at hr_40 ⊢
        refine XL_run 1 [] [(1, .slice B ys.length d), (5, .slice A_37 ((zs4 ++ [(ys.getD i2 at0)]).length) c_38), (6, .int .i64 (i2 : Int)), (8, .pointer (some ⟨wl.heap.size, 0, none⟩)), (14, .slice A xs.length c), (15, .int .i64 (xs.length : Int)), (16, .int .i64 (j : Int))] w_39 [] (by kernel_rfl) trivial ?_
        refine XL_nil ?_
        refine X_region ?_
        refine XL_run 3 [(42, .eq (.int .i64 ((i2 : Int) + 1)))] [(1, .slice B ys.length d), (5, .slice A_37 ((zs4 ++ [(ys.getD i2 at0)]).length) c_38), (6, .int .i64 ((i2 : Int) + 1)), (8, .pointer (some ⟨wl.heap.size, 0, none⟩)), (14, .slice A xs.length c), (15, .int .i64 (xs.length : Int)), (16, .int .i64 (j : Int))] w_39 [Value.int .i64 (IntKind.i64.wrap ((i2 : Int) + 1)) = Value.int .i64 ((i2 : Int) + 1)] (by kernel_rfl) ⟨wr_i64 (by omega) (by omega), trivial⟩ ?_
        refine XL_nil ?_
        have hB_48 : Below w.heap.size w w_39 := (bgo (bt HB2 hb_22) hg_42 hl_43 (Nat.le_refl _))
        refine ⟨(i2 + 1, A_37, c_38, (zs4 ++ [(ys.getD i2 at0)])), by kernel_rfl, ?_, ?_⟩
        · have hnx : (zs4 ++ [(ys.getD i2 at0)]) ++ jn (xs.drop j) (ys.drop (i2 + 1)) = jn xs ys := by rw [List.append_assoc, List.singleton_append, ← jn_low (by omega) (by omega) c_28]; exact he4
          exact ⟨by omega, hnx, hr_40, hk_45, hne_46, (hB_48).size, hB_48⟩
        · (try dsimp only); omega
      · refine XS_run 2 [(32, .eq (.bool false))] [.bool false, .bool false] [(1, .slice B ys.length d), (5, .slice A4 zs4.length c4), (6, .int .i64 (i2 : Int)), (8, .pointer (some ⟨wl.heap.size, 0, none⟩)), (14, .slice A xs.length c), (15, .int .i64 (xs.length : Int)), (16, .int .i64 (j : Int)), (33, .bool false)] [Value.bool (Op.bytesLess ((ys.getD i2 at0).1).toList ((xs.getD j at0).1).toList) = Value.bool false] (by kernel_rfl) (by kernel_rfl) ⟨congrArg Value.bool (Bool.eq_false_iff.2 (c_28)), trivial⟩ ?_
        refine XS_nil ?_
        refine X_cond false rfl ?_
        refine X_exit ?_
        refine X_seq ?_
        refine X_seq ?_
        refine X_still (by kernel_rfl) (by kernel_rfl) (fun wd_49 hb_50 hh_51 => ?_)
        refine XS_run 7 [(46, .eq (.bool true))] [.int .i64 (i2 : Int), .slice B ys.length d, .int .i64 (ys.length : Int), .bool true, .bool true, .slice B ys.length d, .int .i64 (i2 : Int)] [(1, .slice B ys.length d), (5, .slice A4 zs4.length c4), (6, .int .i64 (i2 : Int)), (8, .pointer (some ⟨wl.heap.size, 0, none⟩)), (14, .slice A xs.length c), (15, .int .i64 (xs.length : Int)), (16, .int .i64 (j : Int)), (47, .bool true), (48, .slice B ys.length d), (49, .int .i64 (i2 : Int))] [Value.bool (decide ((i2 : Int) < (ys.length : Int))) = Value.bool true] (by kernel_rfl) (by kernel_rfl) ⟨congrArg Value.bool (decide_eq_true (c_24)), trivial⟩ ?_
        obtain ⟨ad_52, ha_53, hc_54⟩ := Kd.atAttr (Kd.C_below hy (bt (bt HB2 hb_22) hb_50)) (i := (i2 : Int)) (by omega) (by omega)
        replace hc_54 : CellsAt wd_49 (ad_52.add ((i2 : Int).toNat * 4)) [.string ((ys.getD i2 at0).1), .int .i64 ((ys.getD i2 at0).2.1), .int .i64 ((ys.getD i2 at0).2.2.1), .string ((ys.getD i2 at0).2.2.2)] := hc_54
        refine XS_run 5 [(50, .idx ad_52), (52, .load (.string ((ys.getD i2 at0).1))), (54, .load (.string ((xs.getD j at0).1)))] [.pointer (some (ad_52.add ((i2 : Int).toNat * 4))), .pointer (some (ad_52.add ((i2 : Int).toNat * 4))), .string ((ys.getD i2 at0).1), .pointer (some ⟨wl.heap.size, 0, none⟩), .string ((xs.getD j at0).1)] [(1, .slice B ys.length d), (5, .slice A4 zs4.length c4), (6, .int .i64 (i2 : Int)), (8, .pointer (some ⟨wl.heap.size, 0, none⟩)), (14, .slice A xs.length c), (15, .int .i64 (xs.length : Int)), (16, .int .i64 (j : Int)), (47, .bool true), (52, .string ((ys.getD i2 at0).1)), (54, .string ((xs.getD j at0).1))] [B = some ad_52, (0 : Int) ≤ (i2 : Int), (i2 : Int) < (ys.length : Int), LoadsAs Tryd.prog 9 (ad_52.add ((i2 : Int).toNat * 4)) (.string ((ys.getD i2 at0).1)) wd_49, LoadsAs Tryd.prog 9 (⟨wl.heap.size, 0, none⟩) (.string ((xs.getD j at0).1)) wd_49] (by kernel_rfl) (by kernel_rfl) ⟨ha_53, (by omega), (by omega), loads1 rfl (elem_cell hc_54 0 _ rfl), loads1 rfl (Blk.cell (Blk.below hk4 (bt hb_22 hb_50)) 0 _ rfl), trivial⟩ ?_
        by_cases c_55 : ((ys.getD i2 at0).1) = ((xs.getD j at0).1)
        · refine XS_run 2 [(55, .eq (.bool true))] [.bool true, .bool true] [(1, .slice B ys.length d), (5, .slice A4 zs4.length c4), (6, .int .i64 (i2 : Int)), (8, .pointer (some ⟨wl.heap.size, 0, none⟩)), (14, .slice A xs.length c), (15, .int .i64 (xs.length : Int)), (16, .int .i64 (j : Int)), (56, .bool true)] [Value.bool (((ys.getD i2 at0).1).toList == ((xs.getD j at0).1).toList) = Value.bool true] (by kernel_rfl) (by kernel_rfl) ⟨congrArg Value.bool (strEqT (c_55)), trivial⟩ ?_
          refine XS_nil ?_
          refine X_cond true rfl ?_
          refine X_exit ?_
          refine X_region ?_
          refine XL_run 2 [(61, .eq (.int .i64 ((j : Int) + 1)))] [(1, .slice B ys.length d), (5, .slice A4 zs4.length c4), (6, .int .i64 (i2 : Int)), (14, .slice A xs.length c), (15, .int .i64 (xs.length : Int)), (16, .int .i64 ((j : Int) + 1))] wd_49 [Value.int .i64 (IntKind.i64.wrap ((j : Int) + 1)) = Value.int .i64 ((j : Int) + 1)] (by kernel_rfl) ⟨wr_i64 (by omega) (by omega), trivial⟩ ?_
          refine XL_nil ?_
          refine ⟨(j + 1, i2, A4, c4, zs4), by kernel_rfl, ?_, ?_⟩
          · have hnx : zs4 ++ jn (xs.drop (j + 1)) (ys.drop i2) = jn xs ys := by rw [← jn_eq rx (by omega) (by omega) c_55]; exact he4
            exact ⟨by omega, by omega, hnx, (Kd.R_below hr4 (bt hb_22 hb_50)), ((bt (bt HB2 hb_22) hb_50)).size, (bt (bt HB2 hb_22) hb_50)⟩
          · (try dsimp only); omega
        · refine XS_run 2 [(55, .eq (.bool false))] [.bool false, .bool false] [(1, .slice B ys.length d), (5, .slice A4 zs4.length c4), (6, .int .i64 (i2 : Int)), (8, .pointer (some ⟨wl.heap.size, 0, none⟩)), (14, .slice A xs.length c), (15, .int .i64 (xs.length : Int)), (16, .int .i64 (j : Int)), (56, .bool false)] [Value.bool (((ys.getD i2 at0).1).toList == ((xs.getD j at0).1).toList) = Value.bool false] (by kernel_rfl) (by kernel_rfl) ⟨congrArg Value.bool (strEqF (c_55)), trivial⟩ ?_
          refine XS_nil ?_
          refine X_cond false rfl ?_
          refine X_skip ?_
          refine X_region ?_
          refine XL_run 3 [(58, .load (.agg #[.string ((xs.getD j at0).1), .int .i64 ((xs.getD j at0).2.1), .int .i64 ((xs.getD j at0).2.2.1), .string ((xs.getD j at0).2.2.2)]))] [(1, .slice B ys.length d), (6, .int .i64 (i2 : Int)), (14, .slice A xs.length c), (15, .int .i64 (xs.length : Int)), (16, .int .i64 (j : Int)), (57, .slice A4 zs4.length c4), (59, .slice (some ⟨wd_49.heap.size, 0, none⟩) 1 1)] (wd_49.alloc (.cells #[.string ((xs.getD j at0).1), .int .i64 ((xs.getD j at0).2.1), .int .i64 ((xs.getD j at0).2.2.1), .string ((xs.getD j at0).2.2.2)] 55)) [LoadsAs Tryd.prog 55 (⟨wl.heap.size, 0, none⟩) (.agg #[.string ((xs.getD j at0).1), .int .i64 ((xs.getD j at0).2.1), .int .i64 ((xs.getD j at0).2.2.1), .string ((xs.getD j at0).2.2.2)]) wd_49] (by kernel_rfl) ⟨loadsB rfl rfl (Blk.below hk4 (bt hb_22 hb_50)) 0 ⟨by kernel_rfl, by kernel_rfl⟩, trivial⟩ ?_
          obtain ⟨w_56, hw_60, hb_57, hk_58, hz_59⟩ := new_world wd_49 #[.string ((xs.getD j at0).1), .int .i64 ((xs.getD j at0).2.1), .int .i64 ((xs.getD j at0).2.2.1), .string ((xs.getD j at0).2.2.2)] 55
          rw [hw_60]
          rw [← hw_60]
          refine XL_append kAttr rfl rfl rfl w.heap.size 55 (.agg #[.string ByteArray.empty, .int .i64 0, .int .i64 0, .string ByteArray.empty]) 48 Tryd.underlying22 info55 rfl (by decide) (by omega) zs4 ((xs.getD j at0).1, (xs.getD j at0).2.1, (xs.getD j at0).2.2.1, (xs.getD j at0).2.2.2) [.string ((xs.getD j at0).1), .int .i64 ((xs.getD j at0).2.1), .int .i64 ((xs.getD j at0).2.2.1), .string ((xs.getD j at0).2.2.2)] (fun _ => False) (by kernel_rfl) (kAttr_M _ _ _ _) (fun _ h => h.elim) (Kd.R_below hr4 (bt hb_22 hb_50)) ((bt (bt HB2 hb_22) hb_50)).size (by first | omega | (simp; omega)) ?_
          intro A_61 c_62 w_63 hr_64 hc_65 hg_66 hl_67 ha_68
          have hk_69 := Blk.ne (Blk.below hk4 (bt hb_22 hb_50)) hg_66 hne4
          have he_70 : (zs4 ++ [((xs.getD j at0).1, (xs.getD j at0).2.1, (xs.getD j at0).2.2.1, (xs.getD j at0).2.2.2)]) = (zs4 ++ [(xs.getD j at0)]) := rfl
          rw [he_70] at hr_64 ⊢
          refine XL_run 1 [] [(1, .slice B ys.length d), (5, .slice A_61 ((zs4 ++ [(xs.getD j at0)]).length) c_62), (6, .int .i64 (i2 : Int)), (14, .slice A xs.length c), (15, .int .i64 (xs.length : Int)), (16, .int .i64 (j : Int))] w_63 [] (by kernel_rfl) trivial ?_
          refine XL_nil ?_
          refine X_region ?_
          refine XL_run 2 [(61, .eq (.int .i64 ((j : Int) + 1)))] [(1, .slice B ys.length d), (5, .slice A_61 ((zs4 ++ [(xs.getD j at0)]).length) c_62), (6, .int .i64 (i2 : Int)), (14, .slice A xs.length c), (15, .int .i64 (xs.length : Int)), (16, .int .i64 ((j : Int) + 1))] w_63 [Value.int .i64 (IntKind.i64.wrap ((j : Int) + 1)) = Value.int .i64 ((j : Int) + 1)] (by kernel_rfl) ⟨wr_i64 (by omega) (by omega), trivial⟩ ?_
          refine XL_nil ?_
          have hB_71 : Below w.heap.size w w_63 := (bgo (bt (bt HB2 hb_22) hb_50) hg_66 hl_67 (Nat.le_refl _))
          refine ⟨(j + 1, i2, A_61, c_62, (zs4 ++ [(xs.getD j at0)])), by kernel_rfl, ?_, ?_⟩
          · have hnx : (zs4 ++ [(xs.getD j at0)]) ++ jn (xs.drop (j + 1)) (ys.drop i2) = jn xs ys := by rw [List.append_assoc, List.singleton_append, ← jn_x (by omega) (.inr ⟨Bool.eq_false_iff.2 c_28, c_55⟩)]; exact he4
            exact ⟨by omega, by omega, hnx, hr_64, (hB_71).size, hB_71⟩
          · (try dsimp only); omega
    · refine XS_run 11 [(23, .eq (.bool false))] [.bool false, .bool false, undef, undef, undef, undef, undef, undef, undef, undef, .bool false] [(1, .slice B ys.length d), (5, .slice A4 zs4.length c4), (6, .int .i64 (i2 : Int)), (8, .pointer (some ⟨wl.heap.size, 0, none⟩)), (14, .slice A xs.length c), (15, .int .i64 (xs.length : Int)), (16, .int .i64 (j : Int)), (33, .bool false)] [Value.bool (decide ((i2 : Int) < (ys.length : Int))) = Value.bool false] (by kernel_rfl) (by kernel_rfl) ⟨congrArg Value.bool (decide_eq_false (c_24)), trivial⟩ ?_
      refine XS_nil ?_
      refine X_cond false rfl ?_
      refine X_exit ?_
      refine X_seq ?_
      refine X_seq ?_
      refine X_still (by kernel_rfl) (by kernel_rfl) (fun wd_72 hb_73 hh_74 => ?_)
      refine XS_run 14 [(46, .eq (.bool false))] [.int .i64 (i2 : Int), .slice B ys.length d, .int .i64 (ys.length : Int), .bool false, .bool false, undef, undef, undef, undef, undef, undef, undef, undef, .bool false] [(1, .slice B ys.length d), (5, .slice A4 zs4.length c4), (6, .int .i64 (i2 : Int)), (8, .pointer (some ⟨wl.heap.size, 0, none⟩)), (14, .slice A xs.length c), (15, .int .i64 (xs.length : Int)), (16, .int .i64 (j : Int)), (56, .bool false)] [Value.bool (decide ((i2 : Int) < (ys.length : Int))) = Value.bool false] (by kernel_rfl) (by kernel_rfl) ⟨congrArg Value.bool (decide_eq_false (c_24)), trivial⟩ ?_
      refine XS_nil ?_
      refine X_cond false rfl ?_
      refine X_skip ?_
      refine X_region ?_
      refine XL_run 3 [(58, .load (.agg #[.string ((xs.getD j at0).1), .int .i64 ((xs.getD j at0).2.1), .int .i64 ((xs.getD j at0).2.2.1), .string ((xs.getD j at0).2.2.2)]))] [(1, .slice B ys.length d), (6, .int .i64 (i2 : Int)), (14, .slice A xs.length c), (15, .int .i64 (xs.length : Int)), (16, .int .i64 (j : Int)), (57, .slice A4 zs4.length c4), (59, .slice (some ⟨wd_72.heap.size, 0, none⟩) 1 1)] (wd_72.alloc (.cells #[.string ((xs.getD j at0).1), .int .i64 ((xs.getD j at0).2.1), .int .i64 ((xs.getD j at0).2.2.1), .string ((xs.getD j at0).2.2.2)] 55)) [LoadsAs Tryd.prog 55 (⟨wl.heap.size, 0, none⟩) (.agg #[.string ((xs.getD j at0).1), .int .i64 ((xs.getD j at0).2.1), .int .i64 ((xs.getD j at0).2.2.1), .string ((xs.getD j at0).2.2.2)]) wd_72] (by kernel_rfl) ⟨loadsB rfl rfl (Blk.below hk4 (bt hb_22 hb_73)) 0 ⟨by kernel_rfl, by kernel_rfl⟩, trivial⟩ ?_
      obtain ⟨w_75, hw_79, hb_76, hk_77, hz_78⟩ := new_world wd_72 #[.string ((xs.getD j at0).1), .int .i64 ((xs.getD j at0).2.1), .int .i64 ((xs.getD j at0).2.2.1), .string ((xs.getD j at0).2.2.2)] 55
      rw [hw_79]
      rw [← hw_79]
      refine XL_append kAttr rfl rfl rfl w.heap.size 55 (.agg #[.string ByteArray.empty, .int .i64 0, .int .i64 0, .string ByteArray.empty]) 48 Tryd.underlying22 info55 rfl (by decide) (by omega) zs4 ((xs.getD j at0).1, (xs.getD j at0).2.1, (xs.getD j at0).2.2.1, (xs.getD j at0).2.2.2) [.string ((xs.getD j at0).1), .int .i64 ((xs.getD j at0).2.1), .int .i64 ((xs.getD j at0).2.2.1), .string ((xs.getD j at0).2.2.2)] (fun _ => False) (by kernel_rfl) (kAttr_M _ _ _ _) (fun _ h => h.elim) (Kd.R_below hr4 (bt hb_22 hb_73)) ((bt (bt HB2 hb_22) hb_73)).size (by first | omega | (simp; omega)) ?_
      intro A_80 c_81 w_82 hr_83 hc_84 hg_85 hl_86 ha_87
      have hk_88 := Blk.ne (Blk.below hk4 (bt hb_22 hb_73)) hg_85 hne4
      have he_89 : (zs4 ++ [((xs.getD j at0).1, (xs.getD j at0).2.1, (xs.getD j at0).2.2.1, (xs.getD j at0).2.2.2)]) = (zs4 ++ [(xs.getD j at0)]) := rfl
      rw [he_89] at hr_83 ⊢
      refine XL_run 1 [] [(1, .slice B ys.length d), (5, .slice A_80 ((zs4 ++ [(xs.getD j at0)]).length) c_81), (6, .int .i64 (i2 : Int)), (14, .slice A xs.length c), (15, .int .i64 (xs.length : Int)), (16, .int .i64 (j : Int))] w_82 [] (by kernel_rfl) trivial ?_
      refine XL_nil ?_
      refine X_region ?_
      refine XL_run 2 [(61, .eq (.int .i64 ((j : Int) + 1)))] [(1, .slice B ys.length d), (5, .slice A_80 ((zs4 ++ [(xs.getD j at0)]).length) c_81), (6, .int .i64 (i2 : Int)), (14, .slice A xs.length c), (15, .int .i64 (xs.length : Int)), (16, .int .i64 ((j : Int) + 1))] w_82 [Value.int .i64 (IntKind.i64.wrap ((j : Int) + 1)) = Value.int .i64 ((j : Int) + 1)] (by kernel_rfl) ⟨wr_i64 (by omega) (by omega), trivial⟩ ?_
      refine XL_nil ?_
      have hB_90 : Below w.heap.size w w_82 := (bgo (bt (bt HB2 hb_22) hb_73) hg_85 hl_86 (Nat.le_refl _))
      refine ⟨(j + 1, i2, A_80, c_81, (zs4 ++ [(xs.getD j at0)])), by kernel_rfl, ?_, ?_⟩
      · have hnx : (zs4 ++ [(xs.getD j at0)]) ++ jn (xs.drop (j + 1)) (ys.drop i2) = jn xs ys := by rw [List.append_assoc, List.singleton_append, ← jn_x (by omega) (.inl (by omega))]; exact he4
        exact ⟨by omega, by omega, hnx, hr_83, (hB_90).size, hB_90⟩
      · (try dsimp only); omega
  · refine XL_run 1 [(17, .eq (.bool false))] [(1, .slice B ys.length d), (5, .slice A3 zs3.length c3), (6, .int .i64 (i : Int)), (14, .slice A xs.length c), (15, .int .i64 (xs.length : Int)), (16, .int .i64 (j : Int)), (17, .bool false)] wl [Value.bool (decide ((j : Int) < (xs.length : Int))) = Value.bool false] (by kernel_rfl) ⟨congrArg Value.bool (decide_eq_false (c_7)), trivial⟩ ?_
    refine XL_nil ?_
    refine X_seq ?_
    refine X_cond false rfl ?_
    refine X_exit ?_
    refine X_seq ?_
    refine X_region ?_
    obtain ⟨A_91, hA_92⟩ : ∃ A_, (if d = i then B else B.map (·.add (i * 4))) = A_ := ⟨_, rfl⟩
    have hC_93 : kAttr.C w A_91 (ys.length - i) (ys.drop i) := by have h := RX.Kd.C_drop hy (k := i) (cap := d) (by omega) hyd; first | (rw [← hA_92]; exact h)
    refine XL_run 4 [(65, .as (.slice A_91 (ys.length - i) (d - i)))] [(1, .slice B ys.length d), (62, .slice A3 zs3.length c3), (65, .slice A_91 (ys.length - i) (d - i))] wl [RunsAs Tryd.prog [(63, .slice B ys.length d), (64, .int .i64 (i : Int))] (Go.Op.slice 22 (Go.Operand.tmp 63) (some (Go.Operand.tmp 64)) none none) 22 (.slice A_91 (ys.length - i) (d - i)) wl] (by kernel_rfl) ⟨(hA_92 ▸ runs_slice_l (h := (i : Int)) rfl rfl rfl rfl (by omega) (by omega) hyd), trivial⟩ ?_
    refine XL_appendAll (c' := (d - i)) kAttr rfl rfl rfl w.heap.size 55 (.agg #[.string ByteArray.empty, .int .i64 0, .int .i64 0, .string ByteArray.empty]) 48 Tryd.underlying22 info55 rfl (by decide) (by omega) zs3 (ys.drop i) (by kernel_rfl) hr3 (Kd.C_below hC_93 HB) kAttr_KM hle3 (by first | omega | (simp; omega)) ?_
    intro A_94 c_95 w_96 hr_97 hc_98 hg_99 hl_100 ha_101
    have he_102 : (zs3 ++ (ys.drop i)) = (jn xs ys) := by rw [jn_end (show xs.length ≤ j from by omega)] at he3; exact he3
    rw [he_102] at hr_97 ⊢
    refine XL_run 1 [] [(1, .slice B ys.length d), (5, .slice A_94 ((jn xs ys).length) c_95)] w_96 [] (by kernel_rfl) trivial ?_
    refine XL_nil ?_
    refine X_seq ?_
    refine X_seq ?_
    refine X_region ?_
    refine XL_run 3 [] [(5, .slice A_94 ((jn xs ys).length) c_95), (67, .slice B ys.length d), (68, .int .i64 (ys.length : Int)), (69, .int .i64 0)] w_96 [] (by kernel_rfl) trivial ?_
    refine XL_nil ?_
    refine X_block ?_
    refine X_loop (ι := Nat) (fun k => [(5, .slice A_94 ((jn xs ys).length) c_95), (67, .slice B ys.length d), (68, .int .i64 (ys.length : Int)), (69, .int .i64 (k : Int))]) (fun k wm => k ≤ ys.length ∧ Below w_96.heap.size w_96 wm) (fun k => ys.length - k) 0 ⟨by omega, Below.refl _ _⟩ (by kernel_rfl) ?_
    rintro k wm ⟨hk, HB5⟩
    refine X_seq ?_
    refine X_region ?_
    by_cases c_103 : (k : Int) < (ys.length : Int)
    · refine XL_run 1 [(70, .eq (.bool true))] [(5, .slice A_94 ((jn xs ys).length) c_95), (67, .slice B ys.length d), (68, .int .i64 (ys.length : Int)), (69, .int .i64 (k : Int)), (70, .bool true)] wm [Value.bool (decide ((k : Int) < (ys.length : Int))) = Value.bool true] (by kernel_rfl) ⟨congrArg Value.bool (decide_eq_true (c_103)), trivial⟩ ?_
      refine XL_nil ?_
      refine X_seq ?_
      refine X_cond true rfl ?_
      refine X_skip ?_
      refine X_seq ?_
      refine X_block ?_
      refine X_seq ?_
      refine X_region ?_
      have hB_104 : Below w.heap.size w wm := (bt (bgo HB hg_99 hl_100 (Nat.le_refl _)) HB5)
      obtain ⟨ad_105, ha_106, hc_107⟩ := Kd.atAttr (Kd.C_below hy hB_104) (i := (k : Int)) (by omega) (by omega)
      replace hc_107 : CellsAt wm (ad_105.add ((k : Int).toNat * 4)) [.string ((ys.getD k at0).1), .int .i64 ((ys.getD k at0).2.1), .int .i64 ((ys.getD k at0).2.2.1), .string ((ys.getD k at0).2.2.2)] := hc_107
      refine XL_run 3 [(71, .idx ad_105), (72, .load (.agg #[.string ((ys.getD k at0).1), .int .i64 ((ys.getD k at0).2.1), .int .i64 ((ys.getD k at0).2.2.1), .string ((ys.getD k at0).2.2.2)]))] [(5, .slice A_94 ((jn xs ys).length) c_95), (10, .pointer (some ⟨wm.heap.size, 0, none⟩)), (67, .slice B ys.length d), (68, .int .i64 (ys.length : Int)), (69, .int .i64 (k : Int)), (72, .agg #[.string ((ys.getD k at0).1), .int .i64 ((ys.getD k at0).2.1), .int .i64 ((ys.getD k at0).2.2.1), .string ((ys.getD k at0).2.2.2)])] (wm.alloc (.cells #[.string ByteArray.empty, .int .i64 0, .int .i64 0, .string ByteArray.empty] 55)) [B = some ad_105, (0 : Int) ≤ (k : Int), (k : Int) < (ys.length : Int), LoadsAs Tryd.prog 55 (ad_105.add ((k : Int).toNat * 4)) (.agg #[.string ((ys.getD k at0).1), .int .i64 ((ys.getD k at0).2.1), .int .i64 ((ys.getD k at0).2.2.1), .string ((ys.getD k at0).2.2.2)]) wm] (by kernel_rfl) ⟨ha_106, (by omega), (by omega), loadsE rfl rfl hc_107 0 ⟨by kernel_rfl, by kernel_rfl⟩, trivial⟩ ?_
      obtain ⟨w_108, hw_112, hb_109, hk_110, hz_111⟩ := new_world wm #[.string ByteArray.empty, .int .i64 0, .int .i64 0, .string ByteArray.empty] 55
      rw [hw_112]
      refine XL_store (v := .agg #[.string ((ys.getD k at0).1), .int .i64 ((ys.getD k at0).2.1), .int .i64 ((ys.getD k at0).2.2.1), .string ((ys.getD k at0).2.2.2)]) rfl rfl rfl (by kernel_rfl) hk_110 0 [.string ((ys.getD k at0).1), .int .i64 ((ys.getD k at0).2.1), .int .i64 ((ys.getD k at0).2.2.1), .string ((ys.getD k at0).2.2.2)] #[.string ((ys.getD k at0).1), .int .i64 ((ys.getD k at0).2.1), .int .i64 ((ys.getD k at0).2.2.1), .string ((ys.getD k at0).2.2.2)] ⟨by kernel_rfl, rfl, by kernel_rfl⟩ ⟨by kernel_rfl, by kernel_rfl⟩ (Nat.le_of_ble_eq_true (by kernel_rfl)) (fun w_113 hg_114 hk_115 hz_116 => ?_)
      refine XL_nil ?_
      refine X_seq ?_
      refine X_region ?_
      refine XL_run 3 [(76, .load (.string ((ys.getD k at0).1)))] [(5, .slice A_94 ((jn xs ys).length) c_95), (10, .pointer (some ⟨wm.heap.size, 0, none⟩)), (67, .slice B ys.length d), (68, .int .i64 (ys.length : Int)), (69, .int .i64 (k : Int)), (74, .slice A_94 ((jn xs ys).length) c_95), (76, .string ((ys.getD k at0).1))] w_113 [LoadsAs Tryd.prog 9 (⟨wm.heap.size, 0, none⟩) (.string ((ys.getD k at0).1)) w_113] (by kernel_rfl) ⟨loads1 rfl (Blk.cell hk_115 0 _ rfl), trivial⟩ ?_
      refine XL_call 30 rfl rfl rfl ent30 [.slice A_94 ((jn xs ys).length) c_95, .string ((ys.getD k at0).1)] (by kernel_rfl) (has_any _ _ (jn xs ys) ((ys.getD k at0).1) _ (Kd.R_C (Kd.R_below hr_97 (bg (bt HB5 hb_109) hg_114 (HB5).size)))) ?_
      rintro e w_117 ⟨rfl, hb_118⟩; refine ⟨_, rfl, ?_⟩
      rw [show (get (jn xs ys) ((ys.getD k at0).1)).isSome = true from jn_has rx ry (by omega)]
      refine XL_run 4 [] [(5, .slice A_94 ((jn xs ys).length) c_95), (10, .pointer (some ⟨wm.heap.size, 0, none⟩)), (11, .pointer (some ⟨w_117.heap.size, 0, none⟩)), (67, .slice B ys.length d), (68, .int .i64 (ys.length : Int)), (69, .int .i64 (k : Int)), (78, .agg #[.int .i64 ((gv (jn xs ys) ((ys.getD k at0).1)).1), .int .i64 ((gv (jn xs ys) ((ys.getD k at0).1)).2.1), .string ((gv (jn xs ys) ((ys.getD k at0).1)).2.2)]), (79, .bool true)] (w_117.alloc (.cells #[.int .i64 0, .int .i64 0, .string ByteArray.empty] 43)) [] (by kernel_rfl) trivial ?_
      obtain ⟨w_119, hw_123, hb_120, hk_121, hz_122⟩ := new_world w_117 #[.int .i64 0, .int .i64 0, .string ByteArray.empty] 43
      rw [hw_123]
      refine XL_store (v := .agg #[.int .i64 ((gv (jn xs ys) ((ys.getD k at0).1)).1), .int .i64 ((gv (jn xs ys) ((ys.getD k at0).1)).2.1), .string ((gv (jn xs ys) ((ys.getD k at0).1)).2.2)]) rfl rfl rfl (by kernel_rfl) hk_121 0 [.int .i64 ((gv (jn xs ys) ((ys.getD k at0).1)).1), .int .i64 ((gv (jn xs ys) ((ys.getD k at0).1)).2.1), .string ((gv (jn xs ys) ((ys.getD k at0).1)).2.2)] #[.int .i64 ((gv (jn xs ys) ((ys.getD k at0).1)).1), .int .i64 ((gv (jn xs ys) ((ys.getD k at0).1)).2.1), .string ((gv (jn xs ys) ((ys.getD k at0).1)).2.2)] ⟨by kernel_rfl, rfl, by kernel_rfl⟩ ⟨by kernel_rfl, by kernel_rfl⟩ (Nat.le_of_ble_eq_true (by kernel_rfl)) (fun w_124 hg_125 hk_126 hz_127 => ?_)
      refine XL_run 1 [] [(5, .slice A_94 ((jn xs ys).length) c_95), (10, .pointer (some ⟨wm.heap.size, 0, none⟩)), (12, .bool true), (67, .slice B ys.length d), (68, .int .i64 (ys.length : Int)), (69, .int .i64 (k : Int))] w_124 [] (by kernel_rfl) trivial ?_
      refine XL_nil ?_
      refine X_seq ?_
      refine X_region ?_
      refine XL_run 2 [] [(5, .slice A_94 ((jn xs ys).length) c_95), (10, .pointer (some ⟨wm.heap.size, 0, none⟩)), (67, .slice B ys.length d), (68, .int .i64 (ys.length : Int)), (69, .int .i64 (k : Int)), (81, .bool false)] w_124 [] (by kernel_rfl) trivial ?_
      refine XL_nil ?_
      refine X_cond false rfl ?_
      refine X_skip ?_
      refine X_region ?_
      refine XL_run 2 [(85, .eq (.int .i64 ((k : Int) + 1)))] [(5, .slice A_94 ((jn xs ys).length) c_95), (67, .slice B ys.length d), (68, .int .i64 (ys.length : Int)), (69, .int .i64 ((k : Int) + 1))] w_124 [Value.int .i64 (IntKind.i64.wrap ((k : Int) + 1)) = Value.int .i64 ((k : Int) + 1)] (by kernel_rfl) ⟨wr_i64 (by omega) (by omega), trivial⟩ ?_
      refine XL_nil ?_
      have hB_128 : Below w_96.heap.size w_96 w_117 := (bt (bg (bt HB5 hb_109) hg_114 (HB5).size) hb_118)
      have hB_129 : Below w_96.heap.size w_96 w_124 := (bg (bt (bt (bg (bt HB5 hb_109) hg_114 (HB5).size) hb_118) hb_120) hg_125 (hB_128).size)
      refine ⟨(k + 1), by kernel_rfl, ?_, ?_⟩
      · exact ⟨by omega, hB_129⟩
      · (try dsimp only); omega
    · refine XL_run 1 [(70, .eq (.bool false))] [(5, .slice A_94 ((jn xs ys).length) c_95), (67, .slice B ys.length d), (68, .int .i64 (ys.length : Int)), (69, .int .i64 (k : Int)), (70, .bool false)] wm [Value.bool (decide ((k : Int) < (ys.length : Int))) = Value.bool false] (by kernel_rfl) ⟨congrArg Value.bool (decide_eq_false (c_103)), trivial⟩ ?_
      refine XL_nil ?_
      refine X_seq ?_
      refine X_cond false rfl ?_
      refine X_exit ?_
      refine X_seq ?_
      refine X_region ?_
      refine XL_run 2 [] [(4, .slice A_94 ((jn xs ys).length) c_95)] wm [] (by kernel_rfl) trivial ?_
      refine XL_nil ?_
      refine X_ret ?_
      refine RX.ret_ok (P := Tryd.prog) (fn := Tryd.f46) (N := 87) (R := R_) [.slice A_94 ((jn xs ys).length) c_95] (by kernel_rfl) (hR_ _ _ ?_)
      have hB_130 : Below w.heap.size w wm := (bt (bgo HB hg_99 hl_100 (Nat.le_refl _)) HB5)
      exact ⟨_, _, _, rfl, by omega, rfl, (RX.Kd.R_len (Kd.R_below hr_97 HB5)).2, (Kd.R_below hr_97 HB5), hB_130⟩
end Go.Proofs.YtdkdajofppjnaaaDoor
