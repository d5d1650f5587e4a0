/- BuildParts returns true. Conditions: sizes, the tables of utf8, the errors' variables. -/
import Derived.Test.YtkehomiogkoomaaDoorT7
import Derived.Test.YtkehomiogkoomaaDoorParts
import Derived.Test.YtkehomiogkoomaaDoorMixK
set_option linter.unusedVariables false
set_option linter.unusedSimpArgs false
set_option maxRecDepth 100000
namespace Go.Proofs.YtkehomiogkoomaaDoor
open Go Go.RowKit Go.Proofs.YtkehomiogkoomaaDoorW.PrintWords RX
theorem run_remP {t : TypeId} {k : IntKind} {a b : Int} (hb : b ≠ 0) (w : World) : (binOp .rem t (.int k a) (.int k b)).run Tryd.prog w = .ok (.int k (Int.tmod a b)) w := by
  rw [binOp_rem]
  simp [Op.intDiv, hb]
theorem take1P {α : Type} (X : List α) (a b : α) : X ++ ([a] ++ [b]) = (X ++ [a]) ++ [b] := (List.append_assoc ..).symm
set_option maxHeartbeats 8000000 in
theorem bparts_law (A : Option Addr) (c : Nat) (xs : List OpA) (D : Option Addr) (dc : Nat) (cs : List Int) (w : World) (hx : kOp.C w A xs.length xs) (hxc : xs.length ≤ c) (hn : xs.length ≤ 1048576) (hz : ∀ i, i < xs.length → opSz (xs.getD i op0)) (hd : (Kd.int .i64).C w D cs.length cs) (hdn : cs.length ≤ 1048576) (hT : Tabs w) (es : List Addr) (hO : ErrsO w es) : Calls Tryd.prog 4 #[.slice A xs.length c, .slice D cs.length dc] w fun e w' => e = .returned (.bool true) ∧ Below w.heap.size w w' := by
  refine RX.enter Tryd.func4 rfl 170 rfl [(0, .slice A xs.length c), (1, .slice D cs.length dc)] rfl (by kernel_rfl) (fun R_ hR_ => ?_)
  refine X_seq ?_
  refine X_region ?_
  refine xe0 1 [(0, .slice A xs.length c), (1, .slice D cs.length dc)] ?_
  refine XL_nil ?_
  refine X_seq ?_
  refine X_region ?_
  refine XL_call 24 rfl rfl rfl ent24 [] (by kernel_rfl) (lives6_any _ (hT.below (Below.refl _ _)) es (hO.below (Below.refl _ _))) ?_
  rintro e w_1 ⟨rfl, hb_2⟩; refine ⟨_, rfl, ?_⟩
  refine xr0 1 [(5, .bool true)] [19] ?_
  refine XL_nil ?_
  refine X_seq ?_
  refine X_seq ?_
  refine X_region ?_
  refine xr0 4 [(22, .bool false), (23, .slice A xs.length c)] [] ?_
  refine XL_call 25 rfl rfl rfl ent25 [.slice A xs.length c] (by kernel_rfl) (llarge_any _ _ xs _ (Kd.C_below hx hb_2) hn hz) ?_
  rintro e w_3 ⟨rfl, hb_4⟩; refine ⟨_, rfl, ?_⟩
  refine xr0 1 [(25, .bool (decide (60000 < lgS xs)))] [22, 23, 24] ?_
  refine XL_nil ?_
  by_cases c_5 : decide (60000 < lgS xs) = true
  · rw [show (decide (60000 < lgS xs) : Bool) = true from by simpa using c_5]
    refine X_cond true rfl ?_
    refine X_seq ?_
    refine X_region ?_
    refine xe0 2 [(4, .bool true)] ?_
    refine XL_nil ?_
    refine X_ret ?_
    refine RX.ret_ok (P := Tryd.prog) (fn := Tryd.f4) (N := 170) (R := R_) [.bool true] (by kernel_rfl) (hR_ _ _ ?_)
    exact ⟨rfl, (bt hb_2 hb_4)⟩
  · have hlg := of_decide_eq_false (Bool.eq_false_iff.2 c_5)
    obtain ⟨hlg1, hlg2⟩ := lgS_bd xs
    rw [show (decide (60000 < lgS xs) : Bool) = false from by simpa using c_5]
    refine X_cond false rfl ?_
    refine X_skip ?_
    refine X_seq ?_
    refine X_region ?_
    refine xr0 1 [(27, .slice A xs.length c)] [0, 5, 25] ?_
    refine XL_call 26 rfl rfl rfl ent26 [.slice A xs.length c] (by kernel_rfl) (hmake_any _ _ xs _ (Kd.C_below hx (bt hb_2 hb_4)) hxc (by omega) hz (by omega) (hT.below (bt hb_2 hb_4)) es (hO.below (bt hb_2 hb_4))) ?_
    rintro e w_6 ⟨hb_7, ⟨hb0_8, d, A_9, c_10, rfl, hd_11⟩ | ⟨hb0_8, rfl⟩⟩
    · refine ⟨_, rfl, ?_⟩
      obtain ⟨hcb_d, hcn_d, hcz_d, hcc_d⟩ := can_facts (xs := xs) hb0_8 (by omega) hz (by omega)
      have hD_d := hd_11.c
      refine xr0 1 [(6, pw d 0)] [27, 28] ?_
      refine XL_nil ?_
      refine X_seq ?_
      refine X_seq ?_
      refine X_region ?_
      refine xe0 5 [(1, .slice D cs.length dc), (6, pw d 0), (31, .bool false), (33, .int .i64 (cs.length : Int))] ?_
      by_cases c_12 : (cs.length : Int) = 0
      · refine xr 2 [(34, .eq (.bool true))] [(35, .bool true)] [31, 33] [Value.bool ((cs.length : Int) == 0) = Value.bool true] ⟨congrArg Value.bool (beq_iff_eq.2 (c_12)), trivial⟩ ?_
        refine XL_nil ?_
        refine X_cond true rfl ?_
        refine X_seq ?_
        refine X_region ?_
        refine xe0 1 [(4, .bool true)] ?_
        refine XL_nil ?_
        refine X_ret ?_
        refine RX.ret_ok (P := Tryd.prog) (fn := Tryd.f4) (N := 170) (R := R_) [.bool true] (by kernel_rfl) (hR_ _ _ ?_)
        exact ⟨rfl, (bt (bt hb_2 hb_4) hb_7)⟩
      · refine xr 2 [(34, .eq (.bool false))] [(35, .bool false)] [31, 33] [Value.bool ((cs.length : Int) == 0) = Value.bool false] ⟨congrArg Value.bool (beq_eq_false_iff_ne.2 (c_12)), trivial⟩ ?_
        refine XL_nil ?_
        refine X_cond false rfl ?_
        refine X_skip ?_
        refine X_seq ?_
        refine X_region ?_
        refine xr0 1 [(36, pw d 0)] [6, 35] ?_
        refine XL_call 27 rfl rfl rfl ent27 [.pointer (some ⟨d, 0, none⟩)] (by kernel_rfl) (dops_any d (B.can xs) _ hD_d hcb_d hcn_d hcz_d) ?_
        rintro e w_15 ⟨A_13, c_14, rfl, hl_16, hr_17, hb_18⟩; refine ⟨_, rfl, ?_⟩
        have hC_19 := Kd.R_C hr_17
        have hft := fun o_ (h_ : o_ ∈ xs) => (by obtain ⟨i_, hi_, e_⟩ := List.mem_iff_getElem.1 h_; have h2_ := hz i_ hi_; rw [List.getD_eq_getElem?_getD, List.getElem?_eq_getElem hi_] at h2_; rw [← e_]; exact B.fine_of h2_ : B.fine o_)
        have hty := B.can_tx hft
        have hlc := B.can_len xs
        have hfy := fun o_ (h_ : o_ ∈ (B.can xs)) => (by obtain ⟨i_, hi_, e_⟩ := List.mem_iff_getElem.1 h_; have h2_ := hcz_d i_ hi_; rw [List.getD_eq_getElem?_getD, List.getElem?_eq_getElem hi_] at h2_; rw [← e_]; exact B.fine_of h2_ : B.fine o_)
        have hpa := B.parts_alk cs hcb_d hfy
        have hpl := B.parts_len (B.can xs) cs
        refine xr0 1 [(7, .slice A_13 ((B.can xs).length) c_14)] [36, 37] ?_
        refine XL_nil ?_
        refine X_seq ?_
        refine X_region ?_
        refine xw 1 [] [(38, .slice (some ⟨w_15.heap.size, 0, none⟩) 0 0)] [] (w_15.alloc (.cells #[] 47)) [] trivial ?_
        obtain ⟨w_20, hw_24, hb_21, hk_22, hz_23⟩ := new_world w_15 #[] 47
        rw [hw_24]
        refine xr0 1 [(8, .slice (some ⟨w_15.heap.size, 0, none⟩) 0 0)] [38] ?_
        refine XL_nil ?_
        refine X_seq ?_
        refine X_seq ?_
        refine X_region ?_
        refine xe0 3 [(1, .slice D cs.length dc), (7, .slice A_13 ((B.can xs).length) c_14), (8, .slice (some ⟨w_15.heap.size, 0, none⟩) 0 0), (39, .slice A_13 ((B.can xs).length) c_14), (40, .int .i64 ((B.can xs).length : Int)), (41, .int .i64 0)] ?_
        refine XL_nil ?_
        refine X_block ?_
        have hr_25 := Kd.R_litB kOp (W := w_15) (e := 47) (cs := #[]) [] hk_22 (repsOp0 [] (fun _ h => by cases h)) (Nat.le_of_ble_eq_true (by kernel_rfl))
        have hcs0 : 0 < cs.length := by omega
        refine X_loop (ι := Nat × Option Addr × Nat × Nat) (fun ⟨i, Q, nq, cq⟩ => [(1, .slice D cs.length dc), (7, .slice A_13 ((B.can xs).length) c_14), (8, .slice Q nq cq), (39, .slice A_13 ((B.can xs).length) c_14), (40, .int .i64 ((B.can xs).length : Int)), (41, .int .i64 (i : Int))]) (fun ⟨i, Q, nq, cq⟩ wl => i ≤ (B.can xs).length ∧ MixK kOp op0 47 w_15.heap.size w_15 wl Q nq cq (B.parts (B.can xs) cs i) ∧ Below w_15.heap.size w_15 wl) (fun ⟨i, Q, nq, cq⟩ => (B.can xs).length - i) (0, (some ⟨w_15.heap.size, 0, none⟩), 0, 0) ⟨Nat.zero_le _, (MixK.nil (z := op0) (B := w_15.heap.size) (W0 := w_15) hr_25 (Nat.le_refl _)), hb_21⟩ (by kernel_rfl) ?_
        rintro ⟨i, Q, nq, cq⟩ wl ⟨hi, hmx, HB⟩
        have hC_26 : kOp.C wl Q nq (B.parts (B.can xs) cs i) := MixK.C hmx HB
        have hpl1 := hpl i
        have hnq := (MixK.len hmx).1
        refine X_seq ?_
        refine X_region ?_
        by_cases c_27 : (i : Int) < ((B.can xs).length : Int)
        · refine xr 1 [(42, .eq (.bool true))] [(42, .bool true)] [] [Value.bool (decide ((i : Int) < ((B.can xs).length : Int))) = Value.bool true] ⟨congrArg Value.bool (decide_eq_true (c_27)), trivial⟩ ?_
          refine XL_nil ?_
          refine X_seq ?_
          refine X_cond true rfl ?_
          refine X_skip ?_
          refine X_seq ?_
          refine X_block ?_
          refine X_seq ?_
          refine X_region ?_
          refine xr0 1 [(43, nv i)] [42] ?_
          obtain ⟨ad_28, B_31, c_32, ha_29, hc_30, hl_33, hC_34⟩ := C_opK hC_19 HB (i := (i : Int)) (by omega) (by omega)
          replace hc_30 : CellsAt wl (ad_28.add ((i : Int).toNat * 7)) [.int .i64 (((B.can xs).getD i op0).kind), .string (((B.can xs).getD i op0).text), .int .i64 (((B.can xs).getD i op0).vk), .int .i64 (((B.can xs).getD i op0).vn), .string (((B.can xs).getD i op0).vt), .int .i64 (((B.can xs).getD i op0).count), .slice B_31 (((B.can xs).getD i op0).attrs.length) c_32] := hc_30
          replace hl_33 : ((B.can xs).getD i op0).attrs.length ≤ c_32 := hl_33
          replace hC_34 : kAttr.C w_15 B_31 (((B.can xs).getD i op0).attrs.length) ((B.can xs).getD i op0).attrs := hC_34
          refine xw 3 [(44, .idx ad_28), (45, .load (.agg #[.int .i64 (((B.can xs).getD i op0).kind), .string (((B.can xs).getD i op0).text), .int .i64 (((B.can xs).getD i op0).vk), .int .i64 (((B.can xs).getD i op0).vn), .string (((B.can xs).getD i op0).vt), .int .i64 (((B.can xs).getD i op0).count), .slice B_31 (((B.can xs).getD i op0).attrs.length) c_32]))] [(10, pw wl.heap.size 0), (45, .agg #[.int .i64 (((B.can xs).getD i op0).kind), .string (((B.can xs).getD i op0).text), .int .i64 (((B.can xs).getD i op0).vk), .int .i64 (((B.can xs).getD i op0).vn), .string (((B.can xs).getD i op0).vt), .int .i64 (((B.can xs).getD i op0).count), .slice B_31 (((B.can xs).getD i op0).attrs.length) c_32])] [] (wl.alloc (.cells #[.int .i64 0, .string ByteArray.empty, .int .i64 0, .int .i64 0, .string ByteArray.empty, .int .i64 0, .slice none 0 0] 47)) [A_13 = some ad_28, (0 : Int) ≤ (i : Int), (i : Int) < ((B.can xs).length : Int), LoadsAs Tryd.prog 47 (ad_28.add ((i : Int).toNat * 7)) (.agg #[.int .i64 (((B.can xs).getD i op0).kind), .string (((B.can xs).getD i op0).text), .int .i64 (((B.can xs).getD i op0).vk), .int .i64 (((B.can xs).getD i op0).vn), .string (((B.can xs).getD i op0).vt), .int .i64 (((B.can xs).getD i op0).count), .slice B_31 (((B.can xs).getD i op0).attrs.length) c_32]) wl] ⟨ha_29, (by omega), (by omega), loadsE rfl rfl hc_30 0 ⟨by kernel_rfl, by kernel_rfl⟩, trivial⟩ ?_
          obtain ⟨w_35, hw_39, hb_36, hk_37, hz_38⟩ := new_world wl #[.int .i64 0, .string ByteArray.empty, .int .i64 0, .int .i64 0, .string ByteArray.empty, .int .i64 0, .slice none 0 0] 47
          rw [hw_39]
          refine xr0 1 [(9, nv i)] [43] ?_
          refine XL_store (v := .agg #[.int .i64 (((B.can xs).getD i op0).kind), .string (((B.can xs).getD i op0).text), .int .i64 (((B.can xs).getD i op0).vk), .int .i64 (((B.can xs).getD i op0).vn), .string (((B.can xs).getD i op0).vt), .int .i64 (((B.can xs).getD i op0).count), .slice B_31 (((B.can xs).getD i op0).attrs.length) c_32]) rfl rfl rfl (by kernel_rfl) hk_37 0 [.int .i64 (((B.can xs).getD i op0).kind), .string (((B.can xs).getD i op0).text), .int .i64 (((B.can xs).getD i op0).vk), .int .i64 (((B.can xs).getD i op0).vn), .string (((B.can xs).getD i op0).vt), .int .i64 (((B.can xs).getD i op0).count), .slice B_31 (((B.can xs).getD i op0).attrs.length) c_32] #[.int .i64 (((B.can xs).getD i op0).kind), .string (((B.can xs).getD i op0).text), .int .i64 (((B.can xs).getD i op0).vk), .int .i64 (((B.can xs).getD i op0).vn), .string (((B.can xs).getD i op0).vt), .int .i64 (((B.can xs).getD i op0).count), .slice B_31 (((B.can xs).getD i op0).attrs.length) c_32] ⟨by kernel_rfl, rfl, by kernel_rfl⟩ ⟨by kernel_rfl, by kernel_rfl⟩ (Nat.le_of_ble_eq_true (by kernel_rfl)) (fun w_40 hg_41 hk_42 hz_43 => ?_)
          refine XL_nil ?_
          refine X_seq ?_
          refine X_region ?_
          have hpi := badE_getD hcb_d (show i < (B.can xs).length by omega)
          have hszi := hcz_d i (by omega)
          have hsz1 := hszi.1
          obtain ⟨q, hqe, hq, hqi⟩ := B.tm_nat2 i cs.length hcs0
          obtain ⟨K, hK, hK1, hKk⟩ := B.kN_eq cs i hqi
          refine xr 5 [(50, .as (.int .i64 (q : Int)))] [(46, .slice D cs.length dc), (50, nv q)] [9, 45] [RunsAs Tryd.prog [(47, .int .i64 (i : Int)), (49, .int .i64 (cs.length : Int))] (Go.Op.binOp Go.BinOp.rem 3 (Go.Operand.tmp 47) (Go.Operand.tmp 49) 3) 3 (.int .i64 (q : Int)) w_40] ⟨runs_bin rfl rfl rfl (by have h_ := run_remP (t := 3) (k := .i64) (a := (i : Int)) (b := (cs.length : Int)) (by omega) w_40; rwa [hqe] at h_), trivial⟩ ?_
          have hB_44 : Below w.heap.size w wl := (bt (bt (bt (bt hb_2 hb_4) hb_7) hb_18) HB)
          have hB_45 : Below w.heap.size w w_40 := (bg (bt (bt (bt (bt (bt hb_2 hb_4) hb_7) hb_18) HB) hb_36) hg_41 (hB_44).size)
          obtain ⟨ad_46, ha_47, hc_48⟩ := Kd.atI (Kd.C_below hd hB_45) (i := (q : Int)) (by omega) (by omega)
          refine xe 6 [(51, .idx ad_46), (52, .load (.int .i64 (rd cs (q : Int)))), (55, .eq (.int .i64 (K : Int)))] [(1, .slice D cs.length dc), (7, .slice A_13 ((B.can xs).length) c_14), (8, .slice Q nq cq), (10, pw wl.heap.size 0), (11, nv K), (39, .slice A_13 ((B.can xs).length) c_14), (40, .int .i64 ((B.can xs).length : Int)), (41, nv i)] [D = some ad_46, (0 : Int) ≤ (q : Int), (q : Int) < (cs.length : Int), LoadsAs Tryd.prog 3 (ad_46.add ((q : Int).toNat * 1)) (.int .i64 (rd cs (q : Int))) w_40, Value.int .i64 (IntKind.i64.wrap (Int.tmod (IntKind.u64.wrap (rd cs (q : Int))) 1000)) = Value.int .i64 (K : Int)] ⟨ha_47, (by omega), (by omega), loads1 rfl (elem_cell hc_48 0 _ rfl), (by rw [hK]; exact wr_i64 (by omega) (by omega)), trivial⟩ ?_
          refine XL_nil ?_
          refine X_seq ?_
          refine X_gen (S := fun w_ => RX.Blk w_ wl.heap.size 47 #[.int .i64 (((B.can xs).getD i op0).kind), .string (((B.can xs).getD i op0).text), .int .i64 (((B.can xs).getD i op0).vk), .int .i64 (((B.can xs).getD i op0).vn), .string (((B.can xs).getD i op0).vt), .int .i64 (((B.can xs).getD i op0).count), .slice B_31 (((B.can xs).getD i op0).attrs.length) c_32]) [] 6 #[false, false, false, false, false, false] (by kernel_rfl) (by kernel_rfl) (by kernel_rfl) (fun wd_49 hb_50 hh_51 => ?_)
          refine XG_run (fuel' := 4) (Blk.below hk_42 hb_50) [0, 1] [(56, .load (.agg #[.int .i64 (((B.can xs).getD i op0).kind), .string (((B.can xs).getD i op0).text), .int .i64 (((B.can xs).getD i op0).vk), .int .i64 (((B.can xs).getD i op0).vn), .string (((B.can xs).getD i op0).vt), .int .i64 (((B.can xs).getD i op0).count), .slice B_31 (((B.can xs).getD i op0).attrs.length) c_32])), (57, .load (.agg #[.int .i64 (((B.can xs).getD i op0).kind), .string (((B.can xs).getD i op0).text), .int .i64 (((B.can xs).getD i op0).vk), .int .i64 (((B.can xs).getD i op0).vn), .string (((B.can xs).getD i op0).vt), .int .i64 (((B.can xs).getD i op0).count), .slice B_31 (((B.can xs).getD i op0).attrs.length) c_32]))] [.agg #[.int .i64 (((B.can xs).getD i op0).kind), .string (((B.can xs).getD i op0).text), .int .i64 (((B.can xs).getD i op0).vk), .int .i64 (((B.can xs).getD i op0).vn), .string (((B.can xs).getD i op0).vt), .int .i64 (((B.can xs).getD i op0).count), .slice B_31 (((B.can xs).getD i op0).attrs.length) c_32], .agg #[.int .i64 (((B.can xs).getD i op0).kind), .string (((B.can xs).getD i op0).text), .int .i64 (((B.can xs).getD i op0).vk), .int .i64 (((B.can xs).getD i op0).vn), .string (((B.can xs).getD i op0).vt), .int .i64 (((B.can xs).getD i op0).count), .slice B_31 (((B.can xs).getD i op0).attrs.length) c_32]] #[true, true, false, false, false, false] [(1, .slice D cs.length dc), (7, .slice A_13 ((B.can xs).length) c_14), (8, .slice Q nq cq), (10, .pointer (some ⟨wl.heap.size, 0, none⟩)), (11, .int .i64 (K : Int)), (39, .slice A_13 ((B.can xs).length) c_14), (40, .int .i64 ((B.can xs).length : Int)), (41, .int .i64 (i : Int)), (56, .agg #[.int .i64 (((B.can xs).getD i op0).kind), .string (((B.can xs).getD i op0).text), .int .i64 (((B.can xs).getD i op0).vk), .int .i64 (((B.can xs).getD i op0).vn), .string (((B.can xs).getD i op0).vt), .int .i64 (((B.can xs).getD i op0).count), .slice B_31 (((B.can xs).getD i op0).attrs.length) c_32]), (57, .agg #[.int .i64 (((B.can xs).getD i op0).kind), .string (((B.can xs).getD i op0).text), .int .i64 (((B.can xs).getD i op0).vk), .int .i64 (((B.can xs).getD i op0).vn), .string (((B.can xs).getD i op0).vt), .int .i64 (((B.can xs).getD i op0).count), .slice B_31 (((B.can xs).getD i op0).attrs.length) c_32])] (fun w_ => [LoadsAs Tryd.prog 47 (⟨wl.heap.size, 0, none⟩) (.agg #[.int .i64 (((B.can xs).getD i op0).kind), .string (((B.can xs).getD i op0).text), .int .i64 (((B.can xs).getD i op0).vk), .int .i64 (((B.can xs).getD i op0).vn), .string (((B.can xs).getD i op0).vt), .int .i64 (((B.can xs).getD i op0).count), .slice B_31 (((B.can xs).getD i op0).attrs.length) c_32]) w_, LoadsAs Tryd.prog 47 (⟨wl.heap.size, 0, none⟩) (.agg #[.int .i64 (((B.can xs).getD i op0).kind), .string (((B.can xs).getD i op0).text), .int .i64 (((B.can xs).getD i op0).vk), .int .i64 (((B.can xs).getD i op0).vn), .string (((B.can xs).getD i op0).vt), .int .i64 (((B.can xs).getD i op0).count), .slice B_31 (((B.can xs).getD i op0).attrs.length) c_32]) w_]) (fun _ _ _ _ h => h) (fun w_ => by kernel_rfl) rfl (fun w_ hC_ => ⟨loadsB rfl rfl hC_ 0 ⟨by kernel_rfl, by kernel_rfl⟩, loadsB rfl rfl hC_ 0 ⟨by kernel_rfl, by kernel_rfl⟩, trivial⟩) ?_
          refine XG_two (fuel' := 3) 2 3 #[true, true, true, false, false, false] #[true, true, false, true, false, false] _ _ rfl rfl (by kernel_rfl) (by kernel_rfl) (by kernel_rfl) rfl ?_ ?_
          · refine xw 1 [] [(12, pw wd_49.heap.size 0)] [] (wd_49.alloc (.cells #[.int .i64 0, .string ByteArray.empty, .int .i64 0, .int .i64 0, .string ByteArray.empty, .int .i64 0, .slice none 0 0] 47)) [] trivial ?_
            obtain ⟨w_52, hw_56, hb_53, hk_54, hz_55⟩ := new_world wd_49 #[.int .i64 0, .string ByteArray.empty, .int .i64 0, .int .i64 0, .string ByteArray.empty, .int .i64 0, .slice none 0 0] 47
            rw [hw_56]
            refine XL_nil ?_
            refine ⟨(Blk.below hk_42 (bt hb_50 hb_53)), ?_⟩
            refine XG_mid (fuel' := 2) 3 #[true, true, true, true, false, false] _ rfl (by kernel_rfl) (by kernel_rfl) rfl ?_
            refine xw 1 [] [(13, pw w_52.heap.size 0)] [] (w_52.alloc (.cells #[.int .i64 0, .string ByteArray.empty, .int .i64 0, .int .i64 0, .string ByteArray.empty, .int .i64 0, .slice none 0 0] 47)) [] trivial ?_
            obtain ⟨w_57, hw_61, hb_58, hk_59, hz_60⟩ := new_world w_52 #[.int .i64 0, .string ByteArray.empty, .int .i64 0, .int .i64 0, .string ByteArray.empty, .int .i64 0, .slice none 0 0] 47
            rw [hw_61]
            refine XL_nil ?_
            refine ⟨(Blk.below hk_42 (bt (bt hb_50 hb_53) hb_58)), ?_⟩
            refine XG_mid (fuel' := 1) 4 #[true, true, true, true, true, false] _ rfl (by kernel_rfl) (by kernel_rfl) rfl ?_
            refine XL_store (v := .agg #[.int .i64 (((B.can xs).getD i op0).kind), .string (((B.can xs).getD i op0).text), .int .i64 (((B.can xs).getD i op0).vk), .int .i64 (((B.can xs).getD i op0).vn), .string (((B.can xs).getD i op0).vt), .int .i64 (((B.can xs).getD i op0).count), .slice B_31 (((B.can xs).getD i op0).attrs.length) c_32]) rfl rfl rfl (by kernel_rfl) (Blk.below hk_54 hb_58) 0 [.int .i64 (((B.can xs).getD i op0).kind), .string (((B.can xs).getD i op0).text), .int .i64 (((B.can xs).getD i op0).vk), .int .i64 (((B.can xs).getD i op0).vn), .string (((B.can xs).getD i op0).vt), .int .i64 (((B.can xs).getD i op0).count), .slice B_31 (((B.can xs).getD i op0).attrs.length) c_32] #[.int .i64 (((B.can xs).getD i op0).kind), .string (((B.can xs).getD i op0).text), .int .i64 (((B.can xs).getD i op0).vk), .int .i64 (((B.can xs).getD i op0).vn), .string (((B.can xs).getD i op0).vt), .int .i64 (((B.can xs).getD i op0).count), .slice B_31 (((B.can xs).getD i op0).attrs.length) c_32] ⟨by kernel_rfl, rfl, by kernel_rfl⟩ ⟨by kernel_rfl, by kernel_rfl⟩ (Nat.le_of_ble_eq_true (by kernel_rfl)) (fun w_62 hg_63 hk_64 hz_65 => ?_)
            have hne_66 : w_52.heap.size ≠ wd_49.heap.size := Nat.ne_of_gt (Nat.lt_of_lt_of_le (Blk.lt hk_54) (Nat.le_refl _))
            have hk_67 := Blk.other hk_59 hg_63 hne_66
            have hB_68 : Below w_15.heap.size w_15 wd_49 := (bt (bg (bt HB hb_36) hg_41 (HB).size) hb_50)
            refine XL_nil ?_
            have hB_69 : Below w_40.heap.size w_40 w_62 := (bg (bt (bt hb_50 hb_53) hb_58) hg_63 (hb_50).size)
            refine ⟨(Blk.below hk_42 hB_69), ?_⟩
            refine XG_mid (fuel' := 0) 5 #[true, true, true, true, true, true] _ rfl (by kernel_rfl) (by kernel_rfl) rfl ?_
            refine XL_store (v := .agg #[.int .i64 (((B.can xs).getD i op0).kind), .string (((B.can xs).getD i op0).text), .int .i64 (((B.can xs).getD i op0).vk), .int .i64 (((B.can xs).getD i op0).vn), .string (((B.can xs).getD i op0).vt), .int .i64 (((B.can xs).getD i op0).count), .slice B_31 (((B.can xs).getD i op0).attrs.length) c_32]) rfl rfl rfl (by kernel_rfl) hk_67 0 [.int .i64 (((B.can xs).getD i op0).kind), .string (((B.can xs).getD i op0).text), .int .i64 (((B.can xs).getD i op0).vk), .int .i64 (((B.can xs).getD i op0).vn), .string (((B.can xs).getD i op0).vt), .int .i64 (((B.can xs).getD i op0).count), .slice B_31 (((B.can xs).getD i op0).attrs.length) c_32] #[.int .i64 (((B.can xs).getD i op0).kind), .string (((B.can xs).getD i op0).text), .int .i64 (((B.can xs).getD i op0).vk), .int .i64 (((B.can xs).getD i op0).vn), .string (((B.can xs).getD i op0).vt), .int .i64 (((B.can xs).getD i op0).count), .slice B_31 (((B.can xs).getD i op0).attrs.length) c_32] ⟨by kernel_rfl, rfl, by kernel_rfl⟩ ⟨by kernel_rfl, by kernel_rfl⟩ (Nat.le_of_ble_eq_true (by kernel_rfl)) (fun w_70 hg_71 hk_72 hz_73 => ?_)
            have hne_74 : wd_49.heap.size ≠ w_52.heap.size := Nat.ne_of_lt (Nat.lt_of_lt_of_le (Blk.lt hk_54) (Nat.le_refl _))
            have hk_75 := Blk.other hk_64 hg_71 hne_74
            refine XL_nil ?_
            refine ⟨(Blk.below hk_42 (bg hB_69 hg_71 ((bt hb_50 hb_53)).size)), ?_⟩
            refine XG_done (by kernel_rfl) ?_
            refine X_seq ?_
            refine X_block ?_
            refine X_seq ?_
            refine X_region ?_
            refine xr 2 [(60, .load (.int .i64 (((B.can xs).getD i op0).kind)))] [(60, .int .i64 (((B.can xs).getD i op0).kind))] [56, 57] [LoadsAs Tryd.prog 3 (⟨wl.heap.size, 0, none⟩) (.int .i64 (((B.can xs).getD i op0).kind)) w_70] ⟨loads1 rfl (Blk.cell (Blk.below hk_42 (bg hB_69 hg_71 ((bt hb_50 hb_53)).size)) 0 _ rfl), trivial⟩ ?_
            by_cases c_76 : ((B.can xs).getD i op0).kind = 1
            · have hk1 : ((B.can xs).getD i op0).kind = 1 := c_76
              refine xr 2 [(61, .eq (.bool true))] [(58, .bool true)] [60] [Value.bool (((B.can xs).getD i op0).kind == 1) = Value.bool true] ⟨congrArg Value.bool (beq_iff_eq.2 (c_76)), trivial⟩ ?_
              refine XL_nil ?_
              refine X_cond true rfl ?_
              refine X_seq ?_
              refine X_region ?_
              refine xr 2 [(63, .load (.string (((B.can xs).getD i op0).text)))] [(63, .string (((B.can xs).getD i op0).text))] [10, 58] [LoadsAs Tryd.prog 9 (⟨wl.heap.size, 1, none⟩) (.string (((B.can xs).getD i op0).text)) w_70] ⟨loads1 rfl (Blk.cell (Blk.below hk_42 (bg hB_69 hg_71 ((bt hb_50 hb_53)).size)) 1 _ rfl), trivial⟩ ?_
              refine XL_runes (U.scz ((B.can xs).getD i op0).text) rfl rfl rfl Tryd.underlying9 Tryd.underlying30 Tryd.underlying21 rfl (by rw [U.runes_utf (B.ok_ins hpi hk1).2.2.2.2.2.1]; unfold U.scz; rw [List.map_map]; rfl) (by unfold U.scz; rw [List.length_map]; have := U.sc_le ((B.can xs).getD i op0).text; omega) (fun c_77 w_78 hr_79 hc_80 hb_81 => ?_)
              refine xe0 1 [(1, .slice D cs.length dc), (7, .slice A_13 ((B.can xs).length) c_14), (8, .slice Q nq cq), (11, nv K), (12, pw wd_49.heap.size 0), (13, pw w_52.heap.size 0), (14, .slice (some ⟨w_70.heap.size, 0, none⟩) ((U.scz ((B.can xs).getD i op0).text).length) c_77), (39, .slice A_13 ((B.can xs).length) c_14), (40, .int .i64 ((B.can xs).length : Int)), (41, nv i)] ?_
              refine XL_nil ?_
              refine X_seq ?_
              refine X_region ?_
              have hsp := B.scz_pos (B.ok_ins hpi hk1).2.2.2.2.2.1 (B.ok_ins hpi hk1).2.2.2.2.1
              obtain ⟨k, hke, hkl, hkk⟩ := B.tm_nat2 K (U.scz ((B.can xs).getD i op0).text).length hsp
              rw [hKk] at hkk
              refine xr 5 [(68, .as (.int .i64 (k : Int)))] [(11, nv k)] [] [RunsAs Tryd.prog [(65, .int .i64 (K : Int)), (67, .int .i64 ((U.scz ((B.can xs).getD i op0).text).length : Int))] (Go.Op.binOp Go.BinOp.rem 3 (Go.Operand.tmp 65) (Go.Operand.tmp 67) 3) 3 (.int .i64 (k : Int)) w_78] ⟨runs_bin rfl rfl rfl (by have h_ := run_remP (t := 3) (k := .i64) (a := (K : Int)) (b := ((U.scz ((B.can xs).getD i op0).text).length : Int)) (by omega) w_78; rwa [hke] at h_), trivial⟩ ?_
              refine XL_nil ?_
              obtain ⟨A_85, hA_86⟩ : ∃ A_, (if c_77 = k then ((some ⟨w_70.heap.size, 0, none⟩) : Option Addr) else ((some ⟨w_70.heap.size, 0, none⟩) : Option Addr).map (·.add (k * 1))) = A_ := ⟨_, rfl⟩
              refine X_gen (S := fun w_ => (Kd.int .i32).C w_ (some ⟨w_70.heap.size, 0, none⟩) k (List.take k (U.scz ((B.can xs).getD i op0).text)) ∧ (Kd.int .i32).C w_ A_85 ((U.scz ((B.can xs).getD i op0).text).length - k) (List.drop k (U.scz ((B.can xs).getD i op0).text))) [] 12 #[false, false, false, false, false, false, false, false, false, false, false, false] (by kernel_rfl) (by kernel_rfl) (by kernel_rfl) (fun wd_82 hb_83 hh_84 => ?_)
              refine XG_run (fuel' := 3) ⟨RX.Kd.C_take (m := k) (Kd.R_C (Kd.R_below hr_79 hb_83)) (by omega), (by have h := RX.Kd.C_drop (Kd.R_C (Kd.R_below hr_79 hb_83)) (k := k) (cap := c_77) (by omega) (RX.Kd.R_len hr_79).2; first | (rw [← hA_86]; exact h))⟩ [0, 1, 2, 3, 4, 5, 6, 7, 8] [(71, .as (.slice (some ⟨w_70.heap.size, 0, none⟩) k c_77)), (72, .as (.string (runesBytes (List.take k (U.scz ((B.can xs).getD i op0).text))))), (75, .as (.slice A_85 ((U.scz ((B.can xs).getD i op0).text).length - k) (c_77 - k))), (76, .as (.string (runesBytes (List.drop k (U.scz ((B.can xs).getD i op0).text)))))] [.slice (some ⟨w_70.heap.size, 0, none⟩) ((U.scz ((B.can xs).getD i op0).text).length) c_77, .int .i64 (k : Int), .slice (some ⟨w_70.heap.size, 0, none⟩) k c_77, .string (runesBytes (List.take k (U.scz ((B.can xs).getD i op0).text))), .slice (some ⟨w_70.heap.size, 0, none⟩) ((U.scz ((B.can xs).getD i op0).text).length) c_77, .int .i64 (k : Int), .slice A_85 ((U.scz ((B.can xs).getD i op0).text).length - k) (c_77 - k), .string (runesBytes (List.drop k (U.scz ((B.can xs).getD i op0).text))), .pointer (some ⟨wd_49.heap.size, 1, none⟩)] #[true, true, true, true, true, true, true, true, true, false, false, false] [(1, .slice D cs.length dc), (7, .slice A_13 ((B.can xs).length) c_14), (8, .slice Q nq cq), (11, .int .i64 (k : Int)), (12, .pointer (some ⟨wd_49.heap.size, 0, none⟩)), (13, .pointer (some ⟨w_52.heap.size, 0, none⟩)), (39, .slice A_13 ((B.can xs).length) c_14), (40, .int .i64 ((B.can xs).length : Int)), (41, .int .i64 (i : Int)), (72, .string (runesBytes (List.take k (U.scz ((B.can xs).getD i op0).text)))), (76, .string (runesBytes (List.drop k (U.scz ((B.can xs).getD i op0).text)))), (77, .pointer (some ⟨wd_49.heap.size, 1, none⟩))] (fun w_ => [RunsAs Tryd.prog [(69, .slice (some ⟨w_70.heap.size, 0, none⟩) ((U.scz ((B.can xs).getD i op0).text).length) c_77), (70, .int .i64 (k : Int))] (Go.Op.slice 30 (Go.Operand.tmp 69) none (some (Go.Operand.tmp 70)) none) 30 (.slice (some ⟨w_70.heap.size, 0, none⟩) k c_77) w_, RunsAs Tryd.prog [(71, .slice (some ⟨w_70.heap.size, 0, none⟩) k c_77)] (Go.Op.convert 30 9 (Go.Operand.tmp 71)) 9 (.string (runesBytes (List.take k (U.scz ((B.can xs).getD i op0).text)))) w_, RunsAs Tryd.prog [(73, .slice (some ⟨w_70.heap.size, 0, none⟩) ((U.scz ((B.can xs).getD i op0).text).length) c_77), (74, .int .i64 (k : Int))] (Go.Op.slice 30 (Go.Operand.tmp 73) (some (Go.Operand.tmp 74)) none none) 30 (.slice A_85 ((U.scz ((B.can xs).getD i op0).text).length - k) (c_77 - k)) w_, RunsAs Tryd.prog [(75, .slice A_85 ((U.scz ((B.can xs).getD i op0).text).length - k) (c_77 - k))] (Go.Op.convert 30 9 (Go.Operand.tmp 75)) 9 (.string (runesBytes (List.drop k (U.scz ((B.can xs).getD i op0).text)))) w_]) (fun _ _ _ _ h => h) (fun w_ => by kernel_rfl) rfl (fun w_ hC_ => ⟨runs_slice_h (h := (k : Int)) rfl rfl rfl rfl (by omega) (by have h := (RX.Kd.R_len hr_79).2; omega), runs_conv rfl (conv_runesC (List.take k (U.scz ((B.can xs).getD i op0).text)) Tryd.underlying30 Tryd.underlying21 Tryd.underlying9 hC_.1), (hA_86 ▸ runs_slice_l (h := (k : Int)) rfl rfl rfl rfl (by omega) (by omega) (by have h := (RX.Kd.R_len hr_79).2; omega)), runs_conv rfl (conv_runesC (List.drop k (U.scz ((B.can xs).getD i op0).text)) Tryd.underlying30 Tryd.underlying21 Tryd.underlying9 hC_.2), trivial⟩) ?_
              refine XG_mid (fuel' := 2) 9 #[true, true, true, true, true, true, true, true, true, true, false, false] _ rfl (by kernel_rfl) (by kernel_rfl) rfl ?_
              refine XL_store (v := .string (runesBytes (List.take k (U.scz ((B.can xs).getD i op0).text)))) rfl rfl rfl (by kernel_rfl) (Blk.below hk_75 (bt hb_81 hb_83)) 1 [.string (runesBytes (List.take k (U.scz ((B.can xs).getD i op0).text)))] #[.int .i64 (((B.can xs).getD i op0).kind), .string (runesBytes (List.take k (U.scz ((B.can xs).getD i op0).text))), .int .i64 (((B.can xs).getD i op0).vk), .int .i64 (((B.can xs).getD i op0).vn), .string (((B.can xs).getD i op0).vt), .int .i64 (((B.can xs).getD i op0).count), .slice B_31 (((B.can xs).getD i op0).attrs.length) c_32] ⟨by kernel_rfl, rfl, by kernel_rfl⟩ ⟨by kernel_rfl, by kernel_rfl⟩ (Nat.le_of_ble_eq_true (by kernel_rfl)) (fun w_87 hg_88 hk_89 hz_90 => ?_)
              have hk_91 := Blk.other (Blk.below hk_72 (bt hb_81 hb_83)) hg_88 hne_66
              have hr_92 := RX.Kd.R_past (Kd.R_below hr_79 hb_83) hg_88 (Nat.lt_of_lt_of_le (Blk.lt hk_54) (Nat.le_trans (Nat.le_trans hb_58.size hg_63.size) hg_71.size))
              refine XL_nil ?_
              refine ⟨⟨RX.Kd.C_take (m := k) (Kd.R_C hr_92) (by omega), (by have h := RX.Kd.C_drop (Kd.R_C hr_92) (k := k) (cap := c_77) (by omega) (RX.Kd.R_len hr_79).2; first | (rw [← hA_86]; exact h))⟩, ?_⟩
              refine XG_run (fuel' := 1) ⟨RX.Kd.C_take (m := k) (Kd.R_C hr_92) (by omega), (by have h := RX.Kd.C_drop (Kd.R_C hr_92) (k := k) (cap := c_77) (by omega) (RX.Kd.R_len hr_79).2; first | (rw [← hA_86]; exact h))⟩ [10] [] [.pointer (some ⟨w_52.heap.size, 1, none⟩)] #[true, true, true, true, true, true, true, true, true, true, true, false] [(1, .slice D cs.length dc), (7, .slice A_13 ((B.can xs).length) c_14), (8, .slice Q nq cq), (11, .int .i64 (k : Int)), (12, .pointer (some ⟨wd_49.heap.size, 0, none⟩)), (13, .pointer (some ⟨w_52.heap.size, 0, none⟩)), (39, .slice A_13 ((B.can xs).length) c_14), (40, .int .i64 ((B.can xs).length : Int)), (41, .int .i64 (i : Int)), (76, .string (runesBytes (List.drop k (U.scz ((B.can xs).getD i op0).text)))), (78, .pointer (some ⟨w_52.heap.size, 1, none⟩))] (fun w_ => []) (fun _ _ _ _ h => h) (fun w_ => by kernel_rfl) rfl (fun w_ hC_ => trivial) ?_
              refine XG_mid (fuel' := 0) 11 #[true, true, true, true, true, true, true, true, true, true, true, true] _ rfl (by kernel_rfl) (by kernel_rfl) rfl ?_
              refine XL_store (v := .string (runesBytes (List.drop k (U.scz ((B.can xs).getD i op0).text)))) rfl rfl rfl (by kernel_rfl) hk_91 1 [.string (runesBytes (List.drop k (U.scz ((B.can xs).getD i op0).text)))] #[.int .i64 (((B.can xs).getD i op0).kind), .string (runesBytes (List.drop k (U.scz ((B.can xs).getD i op0).text))), .int .i64 (((B.can xs).getD i op0).vk), .int .i64 (((B.can xs).getD i op0).vn), .string (((B.can xs).getD i op0).vt), .int .i64 (((B.can xs).getD i op0).count), .slice B_31 (((B.can xs).getD i op0).attrs.length) c_32] ⟨by kernel_rfl, rfl, by kernel_rfl⟩ ⟨by kernel_rfl, by kernel_rfl⟩ (Nat.le_of_ble_eq_true (by kernel_rfl)) (fun w_93 hg_94 hk_95 hz_96 => ?_)
              have hk_97 := Blk.other hk_89 hg_94 hne_74
              have hr_98 := RX.Kd.R_past hr_92 hg_94 (Nat.lt_of_lt_of_le (Blk.lt hk_59) (Nat.le_trans hg_63.size hg_71.size))
              refine XL_nil ?_
              refine ⟨⟨RX.Kd.C_take (m := k) (Kd.R_C hr_98) (by omega), (by have h := RX.Kd.C_drop (Kd.R_C hr_98) (k := k) (cap := c_77) (by omega) (RX.Kd.R_len hr_79).2; first | (rw [← hA_86]; exact h))⟩, ?_⟩
              refine XG_done (by kernel_rfl) ?_
              refine X_seq ?_
              refine X_seq ?_
              refine X_region ?_
              refine xr0 1 [(94, nv k)] [11, 76, 78] ?_
              by_cases c_99 : (k : Int) > 0
              · refine xr 1 [(95, .eq (.bool true))] [(95, .bool true)] [94] [Value.bool (decide ((k : Int) > 0)) = Value.bool true] ⟨congrArg Value.bool (decide_eq_true (c_99)), trivial⟩ ?_
                refine XL_nil ?_
                refine X_cond true rfl ?_
                refine X_region ?_
                refine xw 3 [(97, .load (.agg #[.int .i64 (((B.can xs).getD i op0).kind), .string (runesBytes (List.take k (U.scz ((B.can xs).getD i op0).text))), .int .i64 (((B.can xs).getD i op0).vk), .int .i64 (((B.can xs).getD i op0).vn), .string (((B.can xs).getD i op0).vt), .int .i64 (((B.can xs).getD i op0).count), .slice B_31 (((B.can xs).getD i op0).attrs.length) c_32]))] [(96, .slice Q nq cq), (98, .slice (some ⟨w_93.heap.size, 0, none⟩) 1 1)] [8, 12, 95] (w_93.alloc (.cells #[.int .i64 (((B.can xs).getD i op0).kind), .string (runesBytes (List.take k (U.scz ((B.can xs).getD i op0).text))), .int .i64 (((B.can xs).getD i op0).vk), .int .i64 (((B.can xs).getD i op0).vn), .string (((B.can xs).getD i op0).vt), .int .i64 (((B.can xs).getD i op0).count), .slice B_31 (((B.can xs).getD i op0).attrs.length) c_32] 47)) [LoadsAs Tryd.prog 47 (⟨wd_49.heap.size, 0, none⟩) (.agg #[.int .i64 (((B.can xs).getD i op0).kind), .string (runesBytes (List.take k (U.scz ((B.can xs).getD i op0).text))), .int .i64 (((B.can xs).getD i op0).vk), .int .i64 (((B.can xs).getD i op0).vn), .string (((B.can xs).getD i op0).vt), .int .i64 (((B.can xs).getD i op0).count), .slice B_31 (((B.can xs).getD i op0).attrs.length) c_32]) w_93] ⟨loadsB rfl rfl hk_97 0 ⟨by kernel_rfl, by kernel_rfl⟩, trivial⟩ ?_
                obtain ⟨w_100, hw_104, hb_101, hk_102, hz_103⟩ := new_world w_93 #[.int .i64 (((B.can xs).getD i op0).kind), .string (runesBytes (List.take k (U.scz ((B.can xs).getD i op0).text))), .int .i64 (((B.can xs).getD i op0).vk), .int .i64 (((B.can xs).getD i op0).vn), .string (((B.can xs).getD i op0).vt), .int .i64 (((B.can xs).getD i op0).count), .slice B_31 (((B.can xs).getD i op0).attrs.length) c_32] 47
                rw [hw_104]
                have hB_105 : Below wl.heap.size wl wd_49 := (bt (bg hb_36 hg_41 (Nat.le_refl _)) hb_50)
                have hB_106 : Below wl.heap.size wl w_100 := (bt (bg (bg (bt (bt (bg (bg (bt (bt (bt (bg hb_36 hg_41 (Nat.le_refl _)) hb_50) hb_53) hb_58) hg_63 (hB_105).size) hg_71 ((bt hB_105 hb_53)).size) hb_81) hb_83) hg_88 (hB_105).size) hg_94 ((bt hB_105 hb_53)).size) hb_101)
                have hR_107 := Kd.R_litB (kRaw 7) (W := w_93) (e := 47) (cs := #[.int .i64 (((B.can xs).getD i op0).kind), .string (runesBytes (List.take k (U.scz ((B.can xs).getD i op0).text))), .int .i64 (((B.can xs).getD i op0).vk), .int .i64 (((B.can xs).getD i op0).vn), .string (((B.can xs).getD i op0).vt), .int .i64 (((B.can xs).getD i op0).count), .slice B_31 (((B.can xs).getD i op0).attrs.length) c_32]) [[.int .i64 (((B.can xs).getD i op0).kind), .string (runesBytes (List.take k (U.scz ((B.can xs).getD i op0).text))), .int .i64 (((B.can xs).getD i op0).vk), .int .i64 (((B.can xs).getD i op0).vn), .string (((B.can xs).getD i op0).vt), .int .i64 (((B.can xs).getD i op0).count), .slice B_31 (((B.can xs).getD i op0).attrs.length) c_32]] hk_102 (rawL1 _ rfl (by kernel_rfl)) (Nat.le_of_ble_eq_true (by kernel_rfl))
                have hB_114 : Below w_15.heap.size w_15 w_100 := (bt (bg (bg (bt (bt (bg (bg (bt (bt hB_68 hb_53) hb_58) hg_63 (hB_68).size) hg_71 ((bt hB_68 hb_53)).size) hb_81) hb_83) hg_88 (hB_68).size) hg_94 ((bt hB_68 hb_53)).size) hb_101)
                refine XL_appendMixK (d := kOp) (W0 := w_15) (B := w_15.heap.size) (c' := 1) (m := 1) op0 rfl rfl rfl 47 (.agg #[.int .i64 0, .string ByteArray.empty, .int .i64 0, .int .i64 0, .string ByteArray.empty, .int .i64 0, .slice none 0 0]) 88 Tryd.underlying37 info47 rfl (by decide) (by omega) (B.parts (B.can xs) cs i) ([(⟨((B.can xs).getD i op0).kind, (runesBytes (List.take k (U.scz ((B.can xs).getD i op0).text))), ((B.can xs).getD i op0).vk, ((B.can xs).getD i op0).vn, ((B.can xs).getD i op0).vt, ((B.can xs).getD i op0).count, ((B.can xs).getD i op0).attrs⟩ : OpA)]) [[.int .i64 (((B.can xs).getD i op0).kind), .string (runesBytes (List.take k (U.scz ((B.can xs).getD i op0).text))), .int .i64 (((B.can xs).getD i op0).vk), .int .i64 (((B.can xs).getD i op0).vn), .string (((B.can xs).getD i op0).vt), .int .i64 (((B.can xs).getD i op0).count), .slice B_31 (((B.can xs).getD i op0).attrs.length) c_32]] (by kernel_rfl) (MixK.below hmx hB_106) (Kd.R_C hR_107) rfl (fun i_ hi_ => by have h_ : i_ = 0 := (by omega); subst h_; exact (kOp_K_of (x := (⟨((B.can xs).getD i op0).kind, (runesBytes (List.take k (U.scz ((B.can xs).getD i op0).text))), ((B.can xs).getD i op0).vk, ((B.can xs).getD i op0).vn, ((B.can xs).getD i op0).vt, ((B.can xs).getD i op0).count, ((B.can xs).getD i op0).attrs⟩ : OpA)) hl_33 hC_34)) (hB_114).size (by (try simp only [List.length_append, List.length_cons, List.length_nil, List.length_take]); omega) ?_
                intro A_108 c_109 w_110 hm_111 hg_112 hl_113
                have hk_115 := Blk.off (Blk.below hk_95 hb_101) hg_112 (fun x_ e_ => Nat.ne_of_lt (Nat.lt_of_lt_of_le (MixK.lt hmx x_ e_) ((bt hB_105 hb_53)).size))
                have hB_116 : Below wl.heap.size wl w_93 := (bg (bg (bt (bt (bg (bg (bt (bt hB_105 hb_53) hb_58) hg_63 (hB_105).size) hg_71 ((bt hB_105 hb_53)).size) hb_81) hb_83) hg_88 (hB_105).size) hg_94 ((bt hB_105 hb_53)).size)
                have hk_117 := Blk.off hk_102 hg_112 (fun x_ e_ => Nat.ne_of_lt (Nat.lt_of_lt_of_le (MixK.lt hmx x_ e_) (hB_116).size))
                obtain ⟨z_118, hz_119⟩ : ∃ z_, ((B.parts (B.can xs) cs i) ++ [(⟨((B.can xs).getD i op0).kind, (runesBytes (List.take k (U.scz ((B.can xs).getD i op0).text))), ((B.can xs).getD i op0).vk, ((B.can xs).getD i op0).vn, ((B.can xs).getD i op0).vt, ((B.can xs).getD i op0).count, ((B.can xs).getD i op0).attrs⟩ : OpA)]) = z_ := ⟨_, rfl⟩; rw [hz_119] at hm_111 ⊢
                have hz_118 := congrArg List.length hz_119; simp only [List.length_append, List.length_cons, List.length_nil, List.length_take] at hz_118
                have hB_121 : Below w_15.heap.size w_15 w_110 := (bgo hB_114 hg_112 hl_113 (Nat.le_refl _))
                have hC_120 : kOp.C w_110 A_108 z_118.length z_118 := MixK.C hm_111 hB_121
                refine xr0 1 [(8, .slice A_108 z_118.length c_109)] [96, 98, 99] ?_
                refine XL_nil ?_
                refine X_region ?_
                refine xw 3 [(101, .load (.agg #[.int .i64 (((B.can xs).getD i op0).kind), .string (runesBytes (List.drop k (U.scz ((B.can xs).getD i op0).text))), .int .i64 (((B.can xs).getD i op0).vk), .int .i64 (((B.can xs).getD i op0).vn), .string (((B.can xs).getD i op0).vt), .int .i64 (((B.can xs).getD i op0).count), .slice B_31 (((B.can xs).getD i op0).attrs.length) c_32]))] [(100, .slice A_108 z_118.length c_109), (102, .slice (some ⟨w_110.heap.size, 0, none⟩) 1 1)] [8, 13] (w_110.alloc (.cells #[.int .i64 (((B.can xs).getD i op0).kind), .string (runesBytes (List.drop k (U.scz ((B.can xs).getD i op0).text))), .int .i64 (((B.can xs).getD i op0).vk), .int .i64 (((B.can xs).getD i op0).vn), .string (((B.can xs).getD i op0).vt), .int .i64 (((B.can xs).getD i op0).count), .slice B_31 (((B.can xs).getD i op0).attrs.length) c_32] 47)) [LoadsAs Tryd.prog 47 (⟨w_52.heap.size, 0, none⟩) (.agg #[.int .i64 (((B.can xs).getD i op0).kind), .string (runesBytes (List.drop k (U.scz ((B.can xs).getD i op0).text))), .int .i64 (((B.can xs).getD i op0).vk), .int .i64 (((B.can xs).getD i op0).vn), .string (((B.can xs).getD i op0).vt), .int .i64 (((B.can xs).getD i op0).count), .slice B_31 (((B.can xs).getD i op0).attrs.length) c_32]) w_110] ⟨loadsB rfl rfl hk_115 0 ⟨by kernel_rfl, by kernel_rfl⟩, trivial⟩ ?_
                obtain ⟨w_122, hw_126, hb_123, hk_124, hz_125⟩ := new_world w_110 #[.int .i64 (((B.can xs).getD i op0).kind), .string (runesBytes (List.drop k (U.scz ((B.can xs).getD i op0).text))), .int .i64 (((B.can xs).getD i op0).vk), .int .i64 (((B.can xs).getD i op0).vn), .string (((B.can xs).getD i op0).vt), .int .i64 (((B.can xs).getD i op0).count), .slice B_31 (((B.can xs).getD i op0).attrs.length) c_32] 47
                rw [hw_126]
                have hR_127 := Kd.R_litB (kRaw 7) (W := w_110) (e := 47) (cs := #[.int .i64 (((B.can xs).getD i op0).kind), .string (runesBytes (List.drop k (U.scz ((B.can xs).getD i op0).text))), .int .i64 (((B.can xs).getD i op0).vk), .int .i64 (((B.can xs).getD i op0).vn), .string (((B.can xs).getD i op0).vt), .int .i64 (((B.can xs).getD i op0).count), .slice B_31 (((B.can xs).getD i op0).attrs.length) c_32]) [[.int .i64 (((B.can xs).getD i op0).kind), .string (runesBytes (List.drop k (U.scz ((B.can xs).getD i op0).text))), .int .i64 (((B.can xs).getD i op0).vk), .int .i64 (((B.can xs).getD i op0).vn), .string (((B.can xs).getD i op0).vt), .int .i64 (((B.can xs).getD i op0).count), .slice B_31 (((B.can xs).getD i op0).attrs.length) c_32]] hk_124 (rawL1 _ rfl (by kernel_rfl)) (Nat.le_of_ble_eq_true (by kernel_rfl))
                refine XL_appendMixK (d := kOp) (W0 := w_15) (B := w_15.heap.size) (c' := 1) (m := 1) op0 rfl rfl rfl 47 (.agg #[.int .i64 0, .string ByteArray.empty, .int .i64 0, .int .i64 0, .string ByteArray.empty, .int .i64 0, .slice none 0 0]) 88 Tryd.underlying37 info47 rfl (by decide) (by omega) z_118 ([(⟨((B.can xs).getD i op0).kind, (runesBytes (List.drop k (U.scz ((B.can xs).getD i op0).text))), ((B.can xs).getD i op0).vk, ((B.can xs).getD i op0).vn, ((B.can xs).getD i op0).vt, ((B.can xs).getD i op0).count, ((B.can xs).getD i op0).attrs⟩ : OpA)]) [[.int .i64 (((B.can xs).getD i op0).kind), .string (runesBytes (List.drop k (U.scz ((B.can xs).getD i op0).text))), .int .i64 (((B.can xs).getD i op0).vk), .int .i64 (((B.can xs).getD i op0).vn), .string (((B.can xs).getD i op0).vt), .int .i64 (((B.can xs).getD i op0).count), .slice B_31 (((B.can xs).getD i op0).attrs.length) c_32]] (by kernel_rfl) (MixK.below hm_111 hb_123) (Kd.R_C hR_127) rfl (fun i_ hi_ => by have h_ : i_ = 0 := (by omega); subst h_; exact (kOp_K_of (x := (⟨((B.can xs).getD i op0).kind, (runesBytes (List.drop k (U.scz ((B.can xs).getD i op0).text))), ((B.can xs).getD i op0).vk, ((B.can xs).getD i op0).vn, ((B.can xs).getD i op0).vt, ((B.can xs).getD i op0).count, ((B.can xs).getD i op0).attrs⟩ : OpA)) hl_33 hC_34)) ((bt hB_121 hb_123)).size (by (try simp only [List.length_append, List.length_cons, List.length_nil, List.length_take]); omega) ?_
                intro A_128 c_129 w_130 hm_131 hg_132 hl_133
                have hk_134 := Blk.off hk_124 hg_132 (fun x_ e_ => Nat.ne_of_lt (Nat.lt_of_lt_of_le (MixK.lt hm_111 x_ e_) (Nat.le_refl _)))
                obtain ⟨z_135, hz_136⟩ : ∃ z_, (z_118 ++ [(⟨((B.can xs).getD i op0).kind, (runesBytes (List.drop k (U.scz ((B.can xs).getD i op0).text))), ((B.can xs).getD i op0).vk, ((B.can xs).getD i op0).vn, ((B.can xs).getD i op0).vt, ((B.can xs).getD i op0).count, ((B.can xs).getD i op0).attrs⟩ : OpA)]) = z_ := ⟨_, rfl⟩; rw [hz_136] at hm_131 ⊢
                have hz_135 := congrArg List.length hz_136; simp only [List.length_append, List.length_cons, List.length_nil, List.length_take] at hz_135
                have hB_138 : Below w_15.heap.size w_15 w_130 := (bgo (bt hB_121 hb_123) hg_132 hl_133 (Nat.le_refl _))
                have hC_137 : kOp.C w_130 A_128 z_135.length z_135 := MixK.C hm_131 hB_138
                refine xe0 1 [(1, .slice D cs.length dc), (7, .slice A_13 ((B.can xs).length) c_14), (8, .slice A_128 z_135.length c_129), (39, .slice A_13 ((B.can xs).length) c_14), (40, .int .i64 ((B.can xs).length : Int)), (41, nv i)] ?_
                refine XL_nil ?_
                refine X_region ?_
                refine xr 2 [(104, .eq (.int .i64 ((i : Int) + 1)))] [(41, .int .i64 ((i : Int) + 1))] [] [Value.int .i64 (IntKind.i64.wrap ((i : Int) + 1)) = Value.int .i64 ((i : Int) + 1)] ⟨wr_i64 (by omega) (by omega), trivial⟩ ?_
                refine XL_nil ?_
                refine ⟨(i + 1, A_128, z_135.length, c_129), by kernel_rfl, ?_, ?_⟩
                · have hpe_ : B.parts (B.can xs) cs (i + 1) = z_135 := by rw [← hz_136, ← hz_119]; show B.parts (B.can xs) cs i ++ B.pcs ((B.can xs).getD i op0) (B.kN cs i) = _; rw [B.pcs_txt (o := ((B.can xs).getD i op0)) hk1 hkk, if_pos (show 0 < k by omega), take1P]
                  refine ⟨by omega, ?_, hB_138⟩
                  rw [hpe_]
                  exact hm_131
                · (try dsimp only); omega
              · refine xr 1 [(95, .eq (.bool false))] [(95, .bool false)] [94] [Value.bool (decide ((k : Int) > 0)) = Value.bool false] ⟨congrArg Value.bool (decide_eq_false (c_99)), trivial⟩ ?_
                refine XL_nil ?_
                refine X_cond false rfl ?_
                refine X_skip ?_
                refine X_region ?_
                refine xw 3 [(101, .load (.agg #[.int .i64 (((B.can xs).getD i op0).kind), .string (runesBytes (List.drop k (U.scz ((B.can xs).getD i op0).text))), .int .i64 (((B.can xs).getD i op0).vk), .int .i64 (((B.can xs).getD i op0).vn), .string (((B.can xs).getD i op0).vt), .int .i64 (((B.can xs).getD i op0).count), .slice B_31 (((B.can xs).getD i op0).attrs.length) c_32]))] [(100, .slice Q nq cq), (102, .slice (some ⟨w_93.heap.size, 0, none⟩) 1 1)] [8, 12, 13, 95] (w_93.alloc (.cells #[.int .i64 (((B.can xs).getD i op0).kind), .string (runesBytes (List.drop k (U.scz ((B.can xs).getD i op0).text))), .int .i64 (((B.can xs).getD i op0).vk), .int .i64 (((B.can xs).getD i op0).vn), .string (((B.can xs).getD i op0).vt), .int .i64 (((B.can xs).getD i op0).count), .slice B_31 (((B.can xs).getD i op0).attrs.length) c_32] 47)) [LoadsAs Tryd.prog 47 (⟨w_52.heap.size, 0, none⟩) (.agg #[.int .i64 (((B.can xs).getD i op0).kind), .string (runesBytes (List.drop k (U.scz ((B.can xs).getD i op0).text))), .int .i64 (((B.can xs).getD i op0).vk), .int .i64 (((B.can xs).getD i op0).vn), .string (((B.can xs).getD i op0).vt), .int .i64 (((B.can xs).getD i op0).count), .slice B_31 (((B.can xs).getD i op0).attrs.length) c_32]) w_93] ⟨loadsB rfl rfl hk_95 0 ⟨by kernel_rfl, by kernel_rfl⟩, trivial⟩ ?_
                obtain ⟨w_139, hw_143, hb_140, hk_141, hz_142⟩ := new_world w_93 #[.int .i64 (((B.can xs).getD i op0).kind), .string (runesBytes (List.drop k (U.scz ((B.can xs).getD i op0).text))), .int .i64 (((B.can xs).getD i op0).vk), .int .i64 (((B.can xs).getD i op0).vn), .string (((B.can xs).getD i op0).vt), .int .i64 (((B.can xs).getD i op0).count), .slice B_31 (((B.can xs).getD i op0).attrs.length) c_32] 47
                rw [hw_143]
                have hB_144 : Below wl.heap.size wl wd_49 := (bt (bg hb_36 hg_41 (Nat.le_refl _)) hb_50)
                have hB_145 : Below wl.heap.size wl w_139 := (bt (bg (bg (bt (bt (bg (bg (bt (bt (bt (bg hb_36 hg_41 (Nat.le_refl _)) hb_50) hb_53) hb_58) hg_63 (hB_144).size) hg_71 ((bt hB_144 hb_53)).size) hb_81) hb_83) hg_88 (hB_144).size) hg_94 ((bt hB_144 hb_53)).size) hb_140)
                have hR_146 := Kd.R_litB (kRaw 7) (W := w_93) (e := 47) (cs := #[.int .i64 (((B.can xs).getD i op0).kind), .string (runesBytes (List.drop k (U.scz ((B.can xs).getD i op0).text))), .int .i64 (((B.can xs).getD i op0).vk), .int .i64 (((B.can xs).getD i op0).vn), .string (((B.can xs).getD i op0).vt), .int .i64 (((B.can xs).getD i op0).count), .slice B_31 (((B.can xs).getD i op0).attrs.length) c_32]) [[.int .i64 (((B.can xs).getD i op0).kind), .string (runesBytes (List.drop k (U.scz ((B.can xs).getD i op0).text))), .int .i64 (((B.can xs).getD i op0).vk), .int .i64 (((B.can xs).getD i op0).vn), .string (((B.can xs).getD i op0).vt), .int .i64 (((B.can xs).getD i op0).count), .slice B_31 (((B.can xs).getD i op0).attrs.length) c_32]] hk_141 (rawL1 _ rfl (by kernel_rfl)) (Nat.le_of_ble_eq_true (by kernel_rfl))
                have hB_153 : Below w_15.heap.size w_15 w_139 := (bt (bg (bg (bt (bt (bg (bg (bt (bt hB_68 hb_53) hb_58) hg_63 (hB_68).size) hg_71 ((bt hB_68 hb_53)).size) hb_81) hb_83) hg_88 (hB_68).size) hg_94 ((bt hB_68 hb_53)).size) hb_140)
                refine XL_appendMixK (d := kOp) (W0 := w_15) (B := w_15.heap.size) (c' := 1) (m := 1) op0 rfl rfl rfl 47 (.agg #[.int .i64 0, .string ByteArray.empty, .int .i64 0, .int .i64 0, .string ByteArray.empty, .int .i64 0, .slice none 0 0]) 88 Tryd.underlying37 info47 rfl (by decide) (by omega) (B.parts (B.can xs) cs i) ([(⟨((B.can xs).getD i op0).kind, (runesBytes (List.drop k (U.scz ((B.can xs).getD i op0).text))), ((B.can xs).getD i op0).vk, ((B.can xs).getD i op0).vn, ((B.can xs).getD i op0).vt, ((B.can xs).getD i op0).count, ((B.can xs).getD i op0).attrs⟩ : OpA)]) [[.int .i64 (((B.can xs).getD i op0).kind), .string (runesBytes (List.drop k (U.scz ((B.can xs).getD i op0).text))), .int .i64 (((B.can xs).getD i op0).vk), .int .i64 (((B.can xs).getD i op0).vn), .string (((B.can xs).getD i op0).vt), .int .i64 (((B.can xs).getD i op0).count), .slice B_31 (((B.can xs).getD i op0).attrs.length) c_32]] (by kernel_rfl) (MixK.below hmx hB_145) (Kd.R_C hR_146) rfl (fun i_ hi_ => by have h_ : i_ = 0 := (by omega); subst h_; exact (kOp_K_of (x := (⟨((B.can xs).getD i op0).kind, (runesBytes (List.drop k (U.scz ((B.can xs).getD i op0).text))), ((B.can xs).getD i op0).vk, ((B.can xs).getD i op0).vn, ((B.can xs).getD i op0).vt, ((B.can xs).getD i op0).count, ((B.can xs).getD i op0).attrs⟩ : OpA)) hl_33 hC_34)) (hB_153).size (by (try simp only [List.length_append, List.length_cons, List.length_nil, List.length_take]); omega) ?_
                intro A_147 c_148 w_149 hm_150 hg_151 hl_152
                have hB_154 : Below wl.heap.size wl w_93 := (bg (bg (bt (bt (bg (bg (bt (bt hB_144 hb_53) hb_58) hg_63 (hB_144).size) hg_71 ((bt hB_144 hb_53)).size) hb_81) hb_83) hg_88 (hB_144).size) hg_94 ((bt hB_144 hb_53)).size)
                have hk_155 := Blk.off hk_141 hg_151 (fun x_ e_ => Nat.ne_of_lt (Nat.lt_of_lt_of_le (MixK.lt hmx x_ e_) (hB_154).size))
                obtain ⟨z_156, hz_157⟩ : ∃ z_, ((B.parts (B.can xs) cs i) ++ [(⟨((B.can xs).getD i op0).kind, (runesBytes (List.drop k (U.scz ((B.can xs).getD i op0).text))), ((B.can xs).getD i op0).vk, ((B.can xs).getD i op0).vn, ((B.can xs).getD i op0).vt, ((B.can xs).getD i op0).count, ((B.can xs).getD i op0).attrs⟩ : OpA)]) = z_ := ⟨_, rfl⟩; rw [hz_157] at hm_150 ⊢
                have hz_156 := congrArg List.length hz_157; simp only [List.length_append, List.length_cons, List.length_nil, List.length_take] at hz_156
                have hB_159 : Below w_15.heap.size w_15 w_149 := (bgo hB_153 hg_151 hl_152 (Nat.le_refl _))
                have hC_158 : kOp.C w_149 A_147 z_156.length z_156 := MixK.C hm_150 hB_159
                refine xr0 1 [(8, .slice A_147 z_156.length c_148)] [100, 102, 103] ?_
                refine XL_nil ?_
                refine X_region ?_
                refine xr 2 [(104, .eq (.int .i64 ((i : Int) + 1)))] [(41, .int .i64 ((i : Int) + 1))] [] [Value.int .i64 (IntKind.i64.wrap ((i : Int) + 1)) = Value.int .i64 ((i : Int) + 1)] ⟨wr_i64 (by omega) (by omega), trivial⟩ ?_
                refine XL_nil ?_
                refine ⟨(i + 1, A_147, z_156.length, c_148), by kernel_rfl, ?_, ?_⟩
                · have hpe_ : B.parts (B.can xs) cs (i + 1) = z_156 := by rw [← hz_157]; show B.parts (B.can xs) cs i ++ B.pcs ((B.can xs).getD i op0) (B.kN cs i) = _; rw [B.pcs_txt (o := ((B.can xs).getD i op0)) hk1 hkk, if_neg (show ¬ 0 < k by omega), List.nil_append]
                  refine ⟨by omega, ?_, hB_159⟩
                  rw [hpe_]
                  exact hm_150
                · (try dsimp only); omega
            · have hk1 : ((B.can xs).getD i op0).kind ≠ 1 := c_76
              refine xr 2 [(61, .eq (.bool false))] [(58, .bool false)] [60] [Value.bool (((B.can xs).getD i op0).kind == 1) = Value.bool false] ⟨congrArg Value.bool (beq_eq_false_iff_ne.2 (c_76)), trivial⟩ ?_
              refine XL_nil ?_
              refine X_cond false rfl ?_
              refine X_seq ?_
              refine X_region ?_
              refine xr 2 [(81, .load (.int .i64 (((B.can xs).getD i op0).kind)))] [(81, .int .i64 (((B.can xs).getD i op0).kind))] [58] [LoadsAs Tryd.prog 3 (⟨wl.heap.size, 0, none⟩) (.int .i64 (((B.can xs).getD i op0).kind)) w_70] ⟨loads1 rfl (Blk.cell (Blk.below hk_42 (bg hB_69 hg_71 ((bt hb_50 hb_53)).size)) 0 _ rfl), trivial⟩ ?_
              by_cases c_160 : ((B.can xs).getD i op0).kind = 2
              · have hk2 : ((B.can xs).getD i op0).kind = 2 := c_160
                refine xe 2 [(82, .eq (.bool false))] [(1, .slice D cs.length dc), (7, .slice A_13 ((B.can xs).length) c_14), (8, .slice Q nq cq), (10, pw wl.heap.size 0), (11, nv K), (12, pw wd_49.heap.size 0), (13, pw w_52.heap.size 0), (39, .slice A_13 ((B.can xs).length) c_14), (40, .int .i64 ((B.can xs).length : Int)), (41, nv i), (79, .bool false)] [Value.bool (((B.can xs).getD i op0).kind != 2) = Value.bool false] ⟨congrArg Value.bool (bneF (c_160)), trivial⟩ ?_
                refine XL_nil ?_
                refine X_cond false rfl ?_
                refine X_region ?_
                refine xr0 1 [(11, .int .i64 0)] [10, 79] ?_
                refine XL_nil ?_
                refine X_seq ?_
                refine X_seq ?_
                refine X_region ?_
                refine xr0 2 [(95, .bool false)] [11] ?_
                refine XL_nil ?_
                refine X_cond false rfl ?_
                refine X_skip ?_
                refine X_region ?_
                refine xw 3 [(101, .load (.agg #[.int .i64 (((B.can xs).getD i op0).kind), .string (((B.can xs).getD i op0).text), .int .i64 (((B.can xs).getD i op0).vk), .int .i64 (((B.can xs).getD i op0).vn), .string (((B.can xs).getD i op0).vt), .int .i64 (((B.can xs).getD i op0).count), .slice B_31 (((B.can xs).getD i op0).attrs.length) c_32]))] [(100, .slice Q nq cq), (102, .slice (some ⟨w_70.heap.size, 0, none⟩) 1 1)] [8, 12, 13, 95] (w_70.alloc (.cells #[.int .i64 (((B.can xs).getD i op0).kind), .string (((B.can xs).getD i op0).text), .int .i64 (((B.can xs).getD i op0).vk), .int .i64 (((B.can xs).getD i op0).vn), .string (((B.can xs).getD i op0).vt), .int .i64 (((B.can xs).getD i op0).count), .slice B_31 (((B.can xs).getD i op0).attrs.length) c_32] 47)) [LoadsAs Tryd.prog 47 (⟨w_52.heap.size, 0, none⟩) (.agg #[.int .i64 (((B.can xs).getD i op0).kind), .string (((B.can xs).getD i op0).text), .int .i64 (((B.can xs).getD i op0).vk), .int .i64 (((B.can xs).getD i op0).vn), .string (((B.can xs).getD i op0).vt), .int .i64 (((B.can xs).getD i op0).count), .slice B_31 (((B.can xs).getD i op0).attrs.length) c_32]) w_70] ⟨loadsB rfl rfl hk_72 0 ⟨by kernel_rfl, by kernel_rfl⟩, trivial⟩ ?_
                obtain ⟨w_161, hw_165, hb_162, hk_163, hz_164⟩ := new_world w_70 #[.int .i64 (((B.can xs).getD i op0).kind), .string (((B.can xs).getD i op0).text), .int .i64 (((B.can xs).getD i op0).vk), .int .i64 (((B.can xs).getD i op0).vn), .string (((B.can xs).getD i op0).vt), .int .i64 (((B.can xs).getD i op0).count), .slice B_31 (((B.can xs).getD i op0).attrs.length) c_32] 47
                rw [hw_165]
                have hB_166 : Below wl.heap.size wl wd_49 := (bt (bg hb_36 hg_41 (Nat.le_refl _)) hb_50)
                have hB_167 : Below wl.heap.size wl w_161 := (bt (bg (bg (bt (bt (bt (bg hb_36 hg_41 (Nat.le_refl _)) hb_50) hb_53) hb_58) hg_63 (hB_166).size) hg_71 ((bt hB_166 hb_53)).size) hb_162)
                have hR_168 := Kd.R_litB (kRaw 7) (W := w_70) (e := 47) (cs := #[.int .i64 (((B.can xs).getD i op0).kind), .string (((B.can xs).getD i op0).text), .int .i64 (((B.can xs).getD i op0).vk), .int .i64 (((B.can xs).getD i op0).vn), .string (((B.can xs).getD i op0).vt), .int .i64 (((B.can xs).getD i op0).count), .slice B_31 (((B.can xs).getD i op0).attrs.length) c_32]) [[.int .i64 (((B.can xs).getD i op0).kind), .string (((B.can xs).getD i op0).text), .int .i64 (((B.can xs).getD i op0).vk), .int .i64 (((B.can xs).getD i op0).vn), .string (((B.can xs).getD i op0).vt), .int .i64 (((B.can xs).getD i op0).count), .slice B_31 (((B.can xs).getD i op0).attrs.length) c_32]] hk_163 (rawL1 _ rfl (by kernel_rfl)) (Nat.le_of_ble_eq_true (by kernel_rfl))
                have hB_175 : Below w_15.heap.size w_15 w_161 := (bt (bg (bg (bt (bt hB_68 hb_53) hb_58) hg_63 (hB_68).size) hg_71 ((bt hB_68 hb_53)).size) hb_162)
                refine XL_appendMixK (d := kOp) (W0 := w_15) (B := w_15.heap.size) (c' := 1) (m := 1) op0 rfl rfl rfl 47 (.agg #[.int .i64 0, .string ByteArray.empty, .int .i64 0, .int .i64 0, .string ByteArray.empty, .int .i64 0, .slice none 0 0]) 88 Tryd.underlying37 info47 rfl (by decide) (by omega) (B.parts (B.can xs) cs i) ([((B.can xs).getD i op0)]) [[.int .i64 (((B.can xs).getD i op0).kind), .string (((B.can xs).getD i op0).text), .int .i64 (((B.can xs).getD i op0).vk), .int .i64 (((B.can xs).getD i op0).vn), .string (((B.can xs).getD i op0).vt), .int .i64 (((B.can xs).getD i op0).count), .slice B_31 (((B.can xs).getD i op0).attrs.length) c_32]] (by kernel_rfl) (MixK.below hmx hB_167) (Kd.R_C hR_168) rfl (fun i_ hi_ => by have h_ : i_ = 0 := (by omega); subst h_; exact (kOp_K_of (x := ((B.can xs).getD i op0)) hl_33 hC_34)) (hB_175).size (by (try simp only [List.length_append, List.length_cons, List.length_nil, List.length_take]); omega) ?_
                intro A_169 c_170 w_171 hm_172 hg_173 hl_174
                have hB_176 : Below wl.heap.size wl w_70 := (bg (bg (bt (bt hB_166 hb_53) hb_58) hg_63 (hB_166).size) hg_71 ((bt hB_166 hb_53)).size)
                have hk_177 := Blk.off hk_163 hg_173 (fun x_ e_ => Nat.ne_of_lt (Nat.lt_of_lt_of_le (MixK.lt hmx x_ e_) (hB_176).size))
                obtain ⟨z_178, hz_179⟩ : ∃ z_, ((B.parts (B.can xs) cs i) ++ [((B.can xs).getD i op0)]) = z_ := ⟨_, rfl⟩; rw [hz_179] at hm_172 ⊢
                have hz_178 := congrArg List.length hz_179; simp only [List.length_append, List.length_cons, List.length_nil, List.length_take] at hz_178
                have hB_181 : Below w_15.heap.size w_15 w_171 := (bgo hB_175 hg_173 hl_174 (Nat.le_refl _))
                have hC_180 : kOp.C w_171 A_169 z_178.length z_178 := MixK.C hm_172 hB_181
                refine xr0 1 [(8, .slice A_169 z_178.length c_170)] [100, 102, 103] ?_
                refine XL_nil ?_
                refine X_region ?_
                refine xr 2 [(104, .eq (.int .i64 ((i : Int) + 1)))] [(41, .int .i64 ((i : Int) + 1))] [] [Value.int .i64 (IntKind.i64.wrap ((i : Int) + 1)) = Value.int .i64 ((i : Int) + 1)] ⟨wr_i64 (by omega) (by omega), trivial⟩ ?_
                refine XL_nil ?_
                refine ⟨(i + 1, A_169, z_178.length, c_170), by kernel_rfl, ?_, ?_⟩
                · have hpe_ : B.parts (B.can xs) cs (i + 1) = z_178 := by rw [← hz_179]; show B.parts (B.can xs) cs i ++ B.pcs ((B.can xs).getD i op0) (B.kN cs i) = _; rw [B.pcs_emb (o := ((B.can xs).getD i op0)) (K := B.kN cs i) hk2]
                  refine ⟨by omega, ?_, hB_181⟩
                  rw [hpe_]
                  exact hm_172
                · (try dsimp only); omega
              · have hk2 : ((B.can xs).getD i op0).kind ≠ 2 := c_160
                refine xe 2 [(82, .eq (.bool true))] [(1, .slice D cs.length dc), (7, .slice A_13 ((B.can xs).length) c_14), (8, .slice Q nq cq), (10, pw wl.heap.size 0), (11, nv K), (12, pw wd_49.heap.size 0), (13, pw w_52.heap.size 0), (39, .slice A_13 ((B.can xs).length) c_14), (40, .int .i64 ((B.can xs).length : Int)), (41, nv i), (79, .bool true)] [Value.bool (((B.can xs).getD i op0).kind != 2) = Value.bool true] ⟨congrArg Value.bool (bneT (c_160)), trivial⟩ ?_
                refine XL_nil ?_
                refine X_cond true rfl ?_
                refine X_seq ?_
                refine X_region ?_
                have hcf := count_of_ok hpi (by have h_ := kind_of_ok hpi; omega)
                obtain ⟨k, hke, hkl, hkk⟩ := B.tm_int K ((B.can xs).getD i op0).count (by omega)
                rw [hKk] at hkk
                refine xr 5 [(85, .load (.int .i64 (((B.can xs).getD i op0).count))), (86, .as (.int .i64 (k : Int)))] [(11, nv k)] [79] [LoadsAs Tryd.prog 3 (⟨wl.heap.size, 5, none⟩) (.int .i64 (((B.can xs).getD i op0).count)) w_70, RunsAs Tryd.prog [(83, .int .i64 (K : Int)), (85, .int .i64 (((B.can xs).getD i op0).count))] (Go.Op.binOp Go.BinOp.rem 3 (Go.Operand.tmp 83) (Go.Operand.tmp 85) 3) 3 (.int .i64 (k : Int)) w_70] ⟨loads1 rfl (Blk.cell (Blk.below hk_42 (bg hB_69 hg_71 ((bt hb_50 hb_53)).size)) 5 _ rfl), runs_bin rfl rfl rfl (by have h_ := run_remP (t := 3) (k := .i64) (a := (K : Int)) (b := (((B.can xs).getD i op0).count)) (by omega) w_70; rwa [hke] at h_), trivial⟩ ?_
                refine XL_nil ?_
                refine X_gen (S := fun w_ => RX.Blk w_ wl.heap.size 47 #[.int .i64 (((B.can xs).getD i op0).kind), .string (((B.can xs).getD i op0).text), .int .i64 (((B.can xs).getD i op0).vk), .int .i64 (((B.can xs).getD i op0).vn), .string (((B.can xs).getD i op0).vt), .int .i64 (((B.can xs).getD i op0).count), .slice B_31 (((B.can xs).getD i op0).attrs.length) c_32]) [] 9 #[false, false, false, false, false, false, false, false, false] (by kernel_rfl) (by kernel_rfl) (by kernel_rfl) (fun wd_182 hb_183 hh_184 => ?_)
                have hB_185 : Below w_40.heap.size w_40 wd_182 := (bt (bg hB_69 hg_71 ((bt hb_50 hb_53)).size) hb_183)
                refine XG_run (fuel' := 3) (Blk.below hk_42 hB_185) [0, 1, 2, 3, 4, 5] [(89, .load (.int .i64 (((B.can xs).getD i op0).count))), (91, .eq (.int .i64 ((((B.can xs).getD i op0).count) - (k : Int))))] [.int .i64 (k : Int), .pointer (some ⟨wl.heap.size, 5, none⟩), .int .i64 (((B.can xs).getD i op0).count), .int .i64 (k : Int), .int .i64 ((((B.can xs).getD i op0).count) - (k : Int)), .pointer (some ⟨wd_49.heap.size, 5, none⟩)] #[true, true, true, true, true, true, false, false, false] [(1, .slice D cs.length dc), (7, .slice A_13 ((B.can xs).length) c_14), (8, .slice Q nq cq), (11, .int .i64 (k : Int)), (12, .pointer (some ⟨wd_49.heap.size, 0, none⟩)), (13, .pointer (some ⟨w_52.heap.size, 0, none⟩)), (39, .slice A_13 ((B.can xs).length) c_14), (40, .int .i64 ((B.can xs).length : Int)), (41, .int .i64 (i : Int)), (87, .int .i64 (k : Int)), (91, .int .i64 ((((B.can xs).getD i op0).count) - (k : Int))), (92, .pointer (some ⟨wd_49.heap.size, 5, none⟩))] (fun w_ => [LoadsAs Tryd.prog 3 (⟨wl.heap.size, 5, none⟩) (.int .i64 (((B.can xs).getD i op0).count)) w_, Value.int .i64 (IntKind.i64.wrap ((((B.can xs).getD i op0).count) - (k : Int))) = Value.int .i64 ((((B.can xs).getD i op0).count) - (k : Int))]) (fun _ _ _ _ h => h) (fun w_ => by kernel_rfl) rfl (fun w_ hC_ => ⟨loads1 rfl (Blk.cell hC_ 5 _ rfl), wr_i64 (by omega) (by omega), trivial⟩) ?_
                refine XG_mid (fuel' := 2) 6 #[true, true, true, true, true, true, true, false, false] _ rfl (by kernel_rfl) (by kernel_rfl) rfl ?_
                refine XL_store (v := .int .i64 (k : Int)) rfl rfl rfl (by kernel_rfl) (Blk.below hk_75 hb_183) 5 [.int .i64 (k : Int)] #[.int .i64 (((B.can xs).getD i op0).kind), .string (((B.can xs).getD i op0).text), .int .i64 (((B.can xs).getD i op0).vk), .int .i64 (((B.can xs).getD i op0).vn), .string (((B.can xs).getD i op0).vt), .int .i64 (k : Int), .slice B_31 (((B.can xs).getD i op0).attrs.length) c_32] ⟨by kernel_rfl, rfl, by kernel_rfl⟩ ⟨by kernel_rfl, by kernel_rfl⟩ (Nat.le_of_ble_eq_true (by kernel_rfl)) (fun w_186 hg_187 hk_188 hz_189 => ?_)
                have hk_190 := Blk.other (Blk.below hk_72 hb_183) hg_187 hne_66
                refine XL_nil ?_
                refine ⟨(Blk.below hk_42 (bg hB_185 hg_187 (hb_50).size)), ?_⟩
                refine XG_run (fuel' := 1) (Blk.below hk_42 (bg hB_185 hg_187 (hb_50).size)) [7] [] [.pointer (some ⟨w_52.heap.size, 5, none⟩)] #[true, true, true, true, true, true, true, true, false] [(1, .slice D cs.length dc), (7, .slice A_13 ((B.can xs).length) c_14), (8, .slice Q nq cq), (11, .int .i64 (k : Int)), (12, .pointer (some ⟨wd_49.heap.size, 0, none⟩)), (13, .pointer (some ⟨w_52.heap.size, 0, none⟩)), (39, .slice A_13 ((B.can xs).length) c_14), (40, .int .i64 ((B.can xs).length : Int)), (41, .int .i64 (i : Int)), (91, .int .i64 ((((B.can xs).getD i op0).count) - (k : Int))), (93, .pointer (some ⟨w_52.heap.size, 5, none⟩))] (fun w_ => []) (fun _ _ _ _ h => h) (fun w_ => by kernel_rfl) rfl (fun w_ hC_ => trivial) ?_
                refine XG_mid (fuel' := 0) 8 #[true, true, true, true, true, true, true, true, true] _ rfl (by kernel_rfl) (by kernel_rfl) rfl ?_
                refine XL_store (v := .int .i64 ((((B.can xs).getD i op0).count) - (k : Int))) rfl rfl rfl (by kernel_rfl) hk_190 5 [.int .i64 ((((B.can xs).getD i op0).count) - (k : Int))] #[.int .i64 (((B.can xs).getD i op0).kind), .string (((B.can xs).getD i op0).text), .int .i64 (((B.can xs).getD i op0).vk), .int .i64 (((B.can xs).getD i op0).vn), .string (((B.can xs).getD i op0).vt), .int .i64 ((((B.can xs).getD i op0).count) - (k : Int)), .slice B_31 (((B.can xs).getD i op0).attrs.length) c_32] ⟨by kernel_rfl, rfl, by kernel_rfl⟩ ⟨by kernel_rfl, by kernel_rfl⟩ (Nat.le_of_ble_eq_true (by kernel_rfl)) (fun w_191 hg_192 hk_193 hz_194 => ?_)
                have hk_195 := Blk.other hk_188 hg_192 hne_74
                refine XL_nil ?_
                have hB_196 : Below w_40.heap.size w_40 w_191 := (bg (bg hB_185 hg_187 (hb_50).size) hg_192 ((bt hb_50 hb_53)).size)
                refine ⟨(Blk.below hk_42 hB_196), ?_⟩
                refine XG_done (by kernel_rfl) ?_
                refine X_seq ?_
                refine X_seq ?_
                refine X_region ?_
                refine xr0 1 [(94, nv k)] [11, 91, 93] ?_
                by_cases c_197 : (k : Int) > 0
                · refine xr 1 [(95, .eq (.bool true))] [(95, .bool true)] [94] [Value.bool (decide ((k : Int) > 0)) = Value.bool true] ⟨congrArg Value.bool (decide_eq_true (c_197)), trivial⟩ ?_
                  refine XL_nil ?_
                  refine X_cond true rfl ?_
                  refine X_region ?_
                  refine xw 3 [(97, .load (.agg #[.int .i64 (((B.can xs).getD i op0).kind), .string (((B.can xs).getD i op0).text), .int .i64 (((B.can xs).getD i op0).vk), .int .i64 (((B.can xs).getD i op0).vn), .string (((B.can xs).getD i op0).vt), .int .i64 (k : Int), .slice B_31 (((B.can xs).getD i op0).attrs.length) c_32]))] [(96, .slice Q nq cq), (98, .slice (some ⟨w_191.heap.size, 0, none⟩) 1 1)] [8, 12, 95] (w_191.alloc (.cells #[.int .i64 (((B.can xs).getD i op0).kind), .string (((B.can xs).getD i op0).text), .int .i64 (((B.can xs).getD i op0).vk), .int .i64 (((B.can xs).getD i op0).vn), .string (((B.can xs).getD i op0).vt), .int .i64 (k : Int), .slice B_31 (((B.can xs).getD i op0).attrs.length) c_32] 47)) [LoadsAs Tryd.prog 47 (⟨wd_49.heap.size, 0, none⟩) (.agg #[.int .i64 (((B.can xs).getD i op0).kind), .string (((B.can xs).getD i op0).text), .int .i64 (((B.can xs).getD i op0).vk), .int .i64 (((B.can xs).getD i op0).vn), .string (((B.can xs).getD i op0).vt), .int .i64 (k : Int), .slice B_31 (((B.can xs).getD i op0).attrs.length) c_32]) w_191] ⟨loadsB rfl rfl hk_195 0 ⟨by kernel_rfl, by kernel_rfl⟩, trivial⟩ ?_
                  obtain ⟨w_198, hw_202, hb_199, hk_200, hz_201⟩ := new_world w_191 #[.int .i64 (((B.can xs).getD i op0).kind), .string (((B.can xs).getD i op0).text), .int .i64 (((B.can xs).getD i op0).vk), .int .i64 (((B.can xs).getD i op0).vn), .string (((B.can xs).getD i op0).vt), .int .i64 (k : Int), .slice B_31 (((B.can xs).getD i op0).attrs.length) c_32] 47
                  rw [hw_202]
                  have hB_203 : Below wl.heap.size wl wd_49 := (bt (bg hb_36 hg_41 (Nat.le_refl _)) hb_50)
                  have hB_204 : Below wl.heap.size wl w_198 := (bt (bg (bg (bt (bg (bg (bt (bt (bt (bg hb_36 hg_41 (Nat.le_refl _)) hb_50) hb_53) hb_58) hg_63 (hB_203).size) hg_71 ((bt hB_203 hb_53)).size) hb_183) hg_187 (hB_203).size) hg_192 ((bt hB_203 hb_53)).size) hb_199)
                  have hR_205 := Kd.R_litB (kRaw 7) (W := w_191) (e := 47) (cs := #[.int .i64 (((B.can xs).getD i op0).kind), .string (((B.can xs).getD i op0).text), .int .i64 (((B.can xs).getD i op0).vk), .int .i64 (((B.can xs).getD i op0).vn), .string (((B.can xs).getD i op0).vt), .int .i64 (k : Int), .slice B_31 (((B.can xs).getD i op0).attrs.length) c_32]) [[.int .i64 (((B.can xs).getD i op0).kind), .string (((B.can xs).getD i op0).text), .int .i64 (((B.can xs).getD i op0).vk), .int .i64 (((B.can xs).getD i op0).vn), .string (((B.can xs).getD i op0).vt), .int .i64 (k : Int), .slice B_31 (((B.can xs).getD i op0).attrs.length) c_32]] hk_200 (rawL1 _ rfl (by kernel_rfl)) (Nat.le_of_ble_eq_true (by kernel_rfl))
                  have hB_212 : Below w_15.heap.size w_15 w_198 := (bt (bg (bg (bt (bg (bg (bt (bt hB_68 hb_53) hb_58) hg_63 (hB_68).size) hg_71 ((bt hB_68 hb_53)).size) hb_183) hg_187 (hB_68).size) hg_192 ((bt hB_68 hb_53)).size) hb_199)
                  refine XL_appendMixK (d := kOp) (W0 := w_15) (B := w_15.heap.size) (c' := 1) (m := 1) op0 rfl rfl rfl 47 (.agg #[.int .i64 0, .string ByteArray.empty, .int .i64 0, .int .i64 0, .string ByteArray.empty, .int .i64 0, .slice none 0 0]) 88 Tryd.underlying37 info47 rfl (by decide) (by omega) (B.parts (B.can xs) cs i) ([(⟨((B.can xs).getD i op0).kind, ((B.can xs).getD i op0).text, ((B.can xs).getD i op0).vk, ((B.can xs).getD i op0).vn, ((B.can xs).getD i op0).vt, (k : Int), ((B.can xs).getD i op0).attrs⟩ : OpA)]) [[.int .i64 (((B.can xs).getD i op0).kind), .string (((B.can xs).getD i op0).text), .int .i64 (((B.can xs).getD i op0).vk), .int .i64 (((B.can xs).getD i op0).vn), .string (((B.can xs).getD i op0).vt), .int .i64 (k : Int), .slice B_31 (((B.can xs).getD i op0).attrs.length) c_32]] (by kernel_rfl) (MixK.below hmx hB_204) (Kd.R_C hR_205) rfl (fun i_ hi_ => by have h_ : i_ = 0 := (by omega); subst h_; exact (kOp_K_of (x := (⟨((B.can xs).getD i op0).kind, ((B.can xs).getD i op0).text, ((B.can xs).getD i op0).vk, ((B.can xs).getD i op0).vn, ((B.can xs).getD i op0).vt, (k : Int), ((B.can xs).getD i op0).attrs⟩ : OpA)) hl_33 hC_34)) (hB_212).size (by (try simp only [List.length_append, List.length_cons, List.length_nil, List.length_take]); omega) ?_
                  intro A_206 c_207 w_208 hm_209 hg_210 hl_211
                  have hk_213 := Blk.off (Blk.below hk_193 hb_199) hg_210 (fun x_ e_ => Nat.ne_of_lt (Nat.lt_of_lt_of_le (MixK.lt hmx x_ e_) ((bt hB_203 hb_53)).size))
                  have hB_214 : Below wl.heap.size wl w_191 := (bg (bg (bt (bg (bg (bt (bt hB_203 hb_53) hb_58) hg_63 (hB_203).size) hg_71 ((bt hB_203 hb_53)).size) hb_183) hg_187 (hB_203).size) hg_192 ((bt hB_203 hb_53)).size)
                  have hk_215 := Blk.off hk_200 hg_210 (fun x_ e_ => Nat.ne_of_lt (Nat.lt_of_lt_of_le (MixK.lt hmx x_ e_) (hB_214).size))
                  obtain ⟨z_216, hz_217⟩ : ∃ z_, ((B.parts (B.can xs) cs i) ++ [(⟨((B.can xs).getD i op0).kind, ((B.can xs).getD i op0).text, ((B.can xs).getD i op0).vk, ((B.can xs).getD i op0).vn, ((B.can xs).getD i op0).vt, (k : Int), ((B.can xs).getD i op0).attrs⟩ : OpA)]) = z_ := ⟨_, rfl⟩; rw [hz_217] at hm_209 ⊢
                  have hz_216 := congrArg List.length hz_217; simp only [List.length_append, List.length_cons, List.length_nil, List.length_take] at hz_216
                  have hB_219 : Below w_15.heap.size w_15 w_208 := (bgo hB_212 hg_210 hl_211 (Nat.le_refl _))
                  have hC_218 : kOp.C w_208 A_206 z_216.length z_216 := MixK.C hm_209 hB_219
                  refine xr0 1 [(8, .slice A_206 z_216.length c_207)] [96, 98, 99] ?_
                  refine XL_nil ?_
                  refine X_region ?_
                  refine xw 3 [(101, .load (.agg #[.int .i64 (((B.can xs).getD i op0).kind), .string (((B.can xs).getD i op0).text), .int .i64 (((B.can xs).getD i op0).vk), .int .i64 (((B.can xs).getD i op0).vn), .string (((B.can xs).getD i op0).vt), .int .i64 ((((B.can xs).getD i op0).count) - (k : Int)), .slice B_31 (((B.can xs).getD i op0).attrs.length) c_32]))] [(100, .slice A_206 z_216.length c_207), (102, .slice (some ⟨w_208.heap.size, 0, none⟩) 1 1)] [8, 13] (w_208.alloc (.cells #[.int .i64 (((B.can xs).getD i op0).kind), .string (((B.can xs).getD i op0).text), .int .i64 (((B.can xs).getD i op0).vk), .int .i64 (((B.can xs).getD i op0).vn), .string (((B.can xs).getD i op0).vt), .int .i64 ((((B.can xs).getD i op0).count) - (k : Int)), .slice B_31 (((B.can xs).getD i op0).attrs.length) c_32] 47)) [LoadsAs Tryd.prog 47 (⟨w_52.heap.size, 0, none⟩) (.agg #[.int .i64 (((B.can xs).getD i op0).kind), .string (((B.can xs).getD i op0).text), .int .i64 (((B.can xs).getD i op0).vk), .int .i64 (((B.can xs).getD i op0).vn), .string (((B.can xs).getD i op0).vt), .int .i64 ((((B.can xs).getD i op0).count) - (k : Int)), .slice B_31 (((B.can xs).getD i op0).attrs.length) c_32]) w_208] ⟨loadsB rfl rfl hk_213 0 ⟨by kernel_rfl, by kernel_rfl⟩, trivial⟩ ?_
                  obtain ⟨w_220, hw_224, hb_221, hk_222, hz_223⟩ := new_world w_208 #[.int .i64 (((B.can xs).getD i op0).kind), .string (((B.can xs).getD i op0).text), .int .i64 (((B.can xs).getD i op0).vk), .int .i64 (((B.can xs).getD i op0).vn), .string (((B.can xs).getD i op0).vt), .int .i64 ((((B.can xs).getD i op0).count) - (k : Int)), .slice B_31 (((B.can xs).getD i op0).attrs.length) c_32] 47
                  rw [hw_224]
                  have hR_225 := Kd.R_litB (kRaw 7) (W := w_208) (e := 47) (cs := #[.int .i64 (((B.can xs).getD i op0).kind), .string (((B.can xs).getD i op0).text), .int .i64 (((B.can xs).getD i op0).vk), .int .i64 (((B.can xs).getD i op0).vn), .string (((B.can xs).getD i op0).vt), .int .i64 ((((B.can xs).getD i op0).count) - (k : Int)), .slice B_31 (((B.can xs).getD i op0).attrs.length) c_32]) [[.int .i64 (((B.can xs).getD i op0).kind), .string (((B.can xs).getD i op0).text), .int .i64 (((B.can xs).getD i op0).vk), .int .i64 (((B.can xs).getD i op0).vn), .string (((B.can xs).getD i op0).vt), .int .i64 ((((B.can xs).getD i op0).count) - (k : Int)), .slice B_31 (((B.can xs).getD i op0).attrs.length) c_32]] hk_222 (rawL1 _ rfl (by kernel_rfl)) (Nat.le_of_ble_eq_true (by kernel_rfl))
                  refine XL_appendMixK (d := kOp) (W0 := w_15) (B := w_15.heap.size) (c' := 1) (m := 1) op0 rfl rfl rfl 47 (.agg #[.int .i64 0, .string ByteArray.empty, .int .i64 0, .int .i64 0, .string ByteArray.empty, .int .i64 0, .slice none 0 0]) 88 Tryd.underlying37 info47 rfl (by decide) (by omega) z_216 ([(⟨((B.can xs).getD i op0).kind, ((B.can xs).getD i op0).text, ((B.can xs).getD i op0).vk, ((B.can xs).getD i op0).vn, ((B.can xs).getD i op0).vt, (((B.can xs).getD i op0).count) - (k : Int), ((B.can xs).getD i op0).attrs⟩ : OpA)]) [[.int .i64 (((B.can xs).getD i op0).kind), .string (((B.can xs).getD i op0).text), .int .i64 (((B.can xs).getD i op0).vk), .int .i64 (((B.can xs).getD i op0).vn), .string (((B.can xs).getD i op0).vt), .int .i64 ((((B.can xs).getD i op0).count) - (k : Int)), .slice B_31 (((B.can xs).getD i op0).attrs.length) c_32]] (by kernel_rfl) (MixK.below hm_209 hb_221) (Kd.R_C hR_225) rfl (fun i_ hi_ => by have h_ : i_ = 0 := (by omega); subst h_; exact (kOp_K_of (x := (⟨((B.can xs).getD i op0).kind, ((B.can xs).getD i op0).text, ((B.can xs).getD i op0).vk, ((B.can xs).getD i op0).vn, ((B.can xs).getD i op0).vt, (((B.can xs).getD i op0).count) - (k : Int), ((B.can xs).getD i op0).attrs⟩ : OpA)) hl_33 hC_34)) ((bt hB_219 hb_221)).size (by (try simp only [List.length_append, List.length_cons, List.length_nil, List.length_take]); omega) ?_
                  intro A_226 c_227 w_228 hm_229 hg_230 hl_231
                  have hk_232 := Blk.off hk_222 hg_230 (fun x_ e_ => Nat.ne_of_lt (Nat.lt_of_lt_of_le (MixK.lt hm_209 x_ e_) (Nat.le_refl _)))
                  obtain ⟨z_233, hz_234⟩ : ∃ z_, (z_216 ++ [(⟨((B.can xs).getD i op0).kind, ((B.can xs).getD i op0).text, ((B.can xs).getD i op0).vk, ((B.can xs).getD i op0).vn, ((B.can xs).getD i op0).vt, (((B.can xs).getD i op0).count) - (k : Int), ((B.can xs).getD i op0).attrs⟩ : OpA)]) = z_ := ⟨_, rfl⟩; rw [hz_234] at hm_229 ⊢
                  have hz_233 := congrArg List.length hz_234; simp only [List.length_append, List.length_cons, List.length_nil, List.length_take] at hz_233
                  have hB_236 : Below w_15.heap.size w_15 w_228 := (bgo (bt hB_219 hb_221) hg_230 hl_231 (Nat.le_refl _))
                  have hC_235 : kOp.C w_228 A_226 z_233.length z_233 := MixK.C hm_229 hB_236
                  refine xe0 1 [(1, .slice D cs.length dc), (7, .slice A_13 ((B.can xs).length) c_14), (8, .slice A_226 z_233.length c_227), (39, .slice A_13 ((B.can xs).length) c_14), (40, .int .i64 ((B.can xs).length : Int)), (41, nv i)] ?_
                  refine XL_nil ?_
                  refine X_region ?_
                  refine xr 2 [(104, .eq (.int .i64 ((i : Int) + 1)))] [(41, .int .i64 ((i : Int) + 1))] [] [Value.int .i64 (IntKind.i64.wrap ((i : Int) + 1)) = Value.int .i64 ((i : Int) + 1)] ⟨wr_i64 (by omega) (by omega), trivial⟩ ?_
                  refine XL_nil ?_
                  refine ⟨(i + 1, A_226, z_233.length, c_227), by kernel_rfl, ?_, ?_⟩
                  · have hpe_ : B.parts (B.can xs) cs (i + 1) = z_233 := by rw [← hz_234, ← hz_217]; show B.parts (B.can xs) cs i ++ B.pcs ((B.can xs).getD i op0) (B.kN cs i) = _; rw [B.pcs_cnt (o := ((B.can xs).getD i op0)) hk1 hk2 hkk, if_pos (show 0 < k by omega), take1P]
                    refine ⟨by omega, ?_, hB_236⟩
                    rw [hpe_]
                    exact hm_229
                  · (try dsimp only); omega
                · refine xr 1 [(95, .eq (.bool false))] [(95, .bool false)] [94] [Value.bool (decide ((k : Int) > 0)) = Value.bool false] ⟨congrArg Value.bool (decide_eq_false (c_197)), trivial⟩ ?_
                  refine XL_nil ?_
                  refine X_cond false rfl ?_
                  refine X_skip ?_
                  refine X_region ?_
                  refine xw 3 [(101, .load (.agg #[.int .i64 (((B.can xs).getD i op0).kind), .string (((B.can xs).getD i op0).text), .int .i64 (((B.can xs).getD i op0).vk), .int .i64 (((B.can xs).getD i op0).vn), .string (((B.can xs).getD i op0).vt), .int .i64 ((((B.can xs).getD i op0).count) - (k : Int)), .slice B_31 (((B.can xs).getD i op0).attrs.length) c_32]))] [(100, .slice Q nq cq), (102, .slice (some ⟨w_191.heap.size, 0, none⟩) 1 1)] [8, 12, 13, 95] (w_191.alloc (.cells #[.int .i64 (((B.can xs).getD i op0).kind), .string (((B.can xs).getD i op0).text), .int .i64 (((B.can xs).getD i op0).vk), .int .i64 (((B.can xs).getD i op0).vn), .string (((B.can xs).getD i op0).vt), .int .i64 ((((B.can xs).getD i op0).count) - (k : Int)), .slice B_31 (((B.can xs).getD i op0).attrs.length) c_32] 47)) [LoadsAs Tryd.prog 47 (⟨w_52.heap.size, 0, none⟩) (.agg #[.int .i64 (((B.can xs).getD i op0).kind), .string (((B.can xs).getD i op0).text), .int .i64 (((B.can xs).getD i op0).vk), .int .i64 (((B.can xs).getD i op0).vn), .string (((B.can xs).getD i op0).vt), .int .i64 ((((B.can xs).getD i op0).count) - (k : Int)), .slice B_31 (((B.can xs).getD i op0).attrs.length) c_32]) w_191] ⟨loadsB rfl rfl hk_193 0 ⟨by kernel_rfl, by kernel_rfl⟩, trivial⟩ ?_
                  obtain ⟨w_237, hw_241, hb_238, hk_239, hz_240⟩ := new_world w_191 #[.int .i64 (((B.can xs).getD i op0).kind), .string (((B.can xs).getD i op0).text), .int .i64 (((B.can xs).getD i op0).vk), .int .i64 (((B.can xs).getD i op0).vn), .string (((B.can xs).getD i op0).vt), .int .i64 ((((B.can xs).getD i op0).count) - (k : Int)), .slice B_31 (((B.can xs).getD i op0).attrs.length) c_32] 47
                  rw [hw_241]
                  have hB_242 : Below wl.heap.size wl wd_49 := (bt (bg hb_36 hg_41 (Nat.le_refl _)) hb_50)
                  have hB_243 : Below wl.heap.size wl w_237 := (bt (bg (bg (bt (bg (bg (bt (bt (bt (bg hb_36 hg_41 (Nat.le_refl _)) hb_50) hb_53) hb_58) hg_63 (hB_242).size) hg_71 ((bt hB_242 hb_53)).size) hb_183) hg_187 (hB_242).size) hg_192 ((bt hB_242 hb_53)).size) hb_238)
                  have hR_244 := Kd.R_litB (kRaw 7) (W := w_191) (e := 47) (cs := #[.int .i64 (((B.can xs).getD i op0).kind), .string (((B.can xs).getD i op0).text), .int .i64 (((B.can xs).getD i op0).vk), .int .i64 (((B.can xs).getD i op0).vn), .string (((B.can xs).getD i op0).vt), .int .i64 ((((B.can xs).getD i op0).count) - (k : Int)), .slice B_31 (((B.can xs).getD i op0).attrs.length) c_32]) [[.int .i64 (((B.can xs).getD i op0).kind), .string (((B.can xs).getD i op0).text), .int .i64 (((B.can xs).getD i op0).vk), .int .i64 (((B.can xs).getD i op0).vn), .string (((B.can xs).getD i op0).vt), .int .i64 ((((B.can xs).getD i op0).count) - (k : Int)), .slice B_31 (((B.can xs).getD i op0).attrs.length) c_32]] hk_239 (rawL1 _ rfl (by kernel_rfl)) (Nat.le_of_ble_eq_true (by kernel_rfl))
                  have hB_251 : Below w_15.heap.size w_15 w_237 := (bt (bg (bg (bt (bg (bg (bt (bt hB_68 hb_53) hb_58) hg_63 (hB_68).size) hg_71 ((bt hB_68 hb_53)).size) hb_183) hg_187 (hB_68).size) hg_192 ((bt hB_68 hb_53)).size) hb_238)
                  refine XL_appendMixK (d := kOp) (W0 := w_15) (B := w_15.heap.size) (c' := 1) (m := 1) op0 rfl rfl rfl 47 (.agg #[.int .i64 0, .string ByteArray.empty, .int .i64 0, .int .i64 0, .string ByteArray.empty, .int .i64 0, .slice none 0 0]) 88 Tryd.underlying37 info47 rfl (by decide) (by omega) (B.parts (B.can xs) cs i) ([(⟨((B.can xs).getD i op0).kind, ((B.can xs).getD i op0).text, ((B.can xs).getD i op0).vk, ((B.can xs).getD i op0).vn, ((B.can xs).getD i op0).vt, (((B.can xs).getD i op0).count) - (k : Int), ((B.can xs).getD i op0).attrs⟩ : OpA)]) [[.int .i64 (((B.can xs).getD i op0).kind), .string (((B.can xs).getD i op0).text), .int .i64 (((B.can xs).getD i op0).vk), .int .i64 (((B.can xs).getD i op0).vn), .string (((B.can xs).getD i op0).vt), .int .i64 ((((B.can xs).getD i op0).count) - (k : Int)), .slice B_31 (((B.can xs).getD i op0).attrs.length) c_32]] (by kernel_rfl) (MixK.below hmx hB_243) (Kd.R_C hR_244) rfl (fun i_ hi_ => by have h_ : i_ = 0 := (by omega); subst h_; exact (kOp_K_of (x := (⟨((B.can xs).getD i op0).kind, ((B.can xs).getD i op0).text, ((B.can xs).getD i op0).vk, ((B.can xs).getD i op0).vn, ((B.can xs).getD i op0).vt, (((B.can xs).getD i op0).count) - (k : Int), ((B.can xs).getD i op0).attrs⟩ : OpA)) hl_33 hC_34)) (hB_251).size (by (try simp only [List.length_append, List.length_cons, List.length_nil, List.length_take]); omega) ?_
                  intro A_245 c_246 w_247 hm_248 hg_249 hl_250
                  have hB_252 : Below wl.heap.size wl w_191 := (bg (bg (bt (bg (bg (bt (bt hB_242 hb_53) hb_58) hg_63 (hB_242).size) hg_71 ((bt hB_242 hb_53)).size) hb_183) hg_187 (hB_242).size) hg_192 ((bt hB_242 hb_53)).size)
                  have hk_253 := Blk.off hk_239 hg_249 (fun x_ e_ => Nat.ne_of_lt (Nat.lt_of_lt_of_le (MixK.lt hmx x_ e_) (hB_252).size))
                  obtain ⟨z_254, hz_255⟩ : ∃ z_, ((B.parts (B.can xs) cs i) ++ [(⟨((B.can xs).getD i op0).kind, ((B.can xs).getD i op0).text, ((B.can xs).getD i op0).vk, ((B.can xs).getD i op0).vn, ((B.can xs).getD i op0).vt, (((B.can xs).getD i op0).count) - (k : Int), ((B.can xs).getD i op0).attrs⟩ : OpA)]) = z_ := ⟨_, rfl⟩; rw [hz_255] at hm_248 ⊢
                  have hz_254 := congrArg List.length hz_255; simp only [List.length_append, List.length_cons, List.length_nil, List.length_take] at hz_254
                  have hB_257 : Below w_15.heap.size w_15 w_247 := (bgo hB_251 hg_249 hl_250 (Nat.le_refl _))
                  have hC_256 : kOp.C w_247 A_245 z_254.length z_254 := MixK.C hm_248 hB_257
                  refine xr0 1 [(8, .slice A_245 z_254.length c_246)] [100, 102, 103] ?_
                  refine XL_nil ?_
                  refine X_region ?_
                  refine xr 2 [(104, .eq (.int .i64 ((i : Int) + 1)))] [(41, .int .i64 ((i : Int) + 1))] [] [Value.int .i64 (IntKind.i64.wrap ((i : Int) + 1)) = Value.int .i64 ((i : Int) + 1)] ⟨wr_i64 (by omega) (by omega), trivial⟩ ?_
                  refine XL_nil ?_
                  refine ⟨(i + 1, A_245, z_254.length, c_246), by kernel_rfl, ?_, ?_⟩
                  · have hpe_ : B.parts (B.can xs) cs (i + 1) = z_254 := by rw [← hz_255]; show B.parts (B.can xs) cs i ++ B.pcs ((B.can xs).getD i op0) (B.kN cs i) = _; rw [B.pcs_cnt (o := ((B.can xs).getD i op0)) hk1 hk2 hkk, if_neg (show ¬ 0 < k by omega), List.nil_append]
                    refine ⟨by omega, ?_, hB_257⟩
                    rw [hpe_]
                    exact hm_248
                  · (try dsimp only); omega
          · refine xw 1 [] [(13, pw wd_49.heap.size 0)] [] (wd_49.alloc (.cells #[.int .i64 0, .string ByteArray.empty, .int .i64 0, .int .i64 0, .string ByteArray.empty, .int .i64 0, .slice none 0 0] 47)) [] trivial ?_
            obtain ⟨w_258, hw_262, hb_259, hk_260, hz_261⟩ := new_world wd_49 #[.int .i64 0, .string ByteArray.empty, .int .i64 0, .int .i64 0, .string ByteArray.empty, .int .i64 0, .slice none 0 0] 47
            rw [hw_262]
            refine XL_nil ?_
            refine ⟨(Blk.below hk_42 (bt hb_50 hb_259)), ?_⟩
            refine XG_mid (fuel' := 2) 2 #[true, true, true, true, false, false] _ rfl (by kernel_rfl) (by kernel_rfl) rfl ?_
            refine xw 1 [] [(12, pw w_258.heap.size 0)] [] (w_258.alloc (.cells #[.int .i64 0, .string ByteArray.empty, .int .i64 0, .int .i64 0, .string ByteArray.empty, .int .i64 0, .slice none 0 0] 47)) [] trivial ?_
            obtain ⟨w_263, hw_267, hb_264, hk_265, hz_266⟩ := new_world w_258 #[.int .i64 0, .string ByteArray.empty, .int .i64 0, .int .i64 0, .string ByteArray.empty, .int .i64 0, .slice none 0 0] 47
            rw [hw_267]
            refine XL_nil ?_
            refine ⟨(Blk.below hk_42 (bt (bt hb_50 hb_259) hb_264)), ?_⟩
            refine XG_mid (fuel' := 1) 4 #[true, true, true, true, true, false] _ rfl (by kernel_rfl) (by kernel_rfl) rfl ?_
            refine XL_store (v := .agg #[.int .i64 (((B.can xs).getD i op0).kind), .string (((B.can xs).getD i op0).text), .int .i64 (((B.can xs).getD i op0).vk), .int .i64 (((B.can xs).getD i op0).vn), .string (((B.can xs).getD i op0).vt), .int .i64 (((B.can xs).getD i op0).count), .slice B_31 (((B.can xs).getD i op0).attrs.length) c_32]) rfl rfl rfl (by kernel_rfl) hk_265 0 [.int .i64 (((B.can xs).getD i op0).kind), .string (((B.can xs).getD i op0).text), .int .i64 (((B.can xs).getD i op0).vk), .int .i64 (((B.can xs).getD i op0).vn), .string (((B.can xs).getD i op0).vt), .int .i64 (((B.can xs).getD i op0).count), .slice B_31 (((B.can xs).getD i op0).attrs.length) c_32] #[.int .i64 (((B.can xs).getD i op0).kind), .string (((B.can xs).getD i op0).text), .int .i64 (((B.can xs).getD i op0).vk), .int .i64 (((B.can xs).getD i op0).vn), .string (((B.can xs).getD i op0).vt), .int .i64 (((B.can xs).getD i op0).count), .slice B_31 (((B.can xs).getD i op0).attrs.length) c_32] ⟨by kernel_rfl, rfl, by kernel_rfl⟩ ⟨by kernel_rfl, by kernel_rfl⟩ (Nat.le_of_ble_eq_true (by kernel_rfl)) (fun w_268 hg_269 hk_270 hz_271 => ?_)
            have hB_272 : Below w_15.heap.size w_15 w_258 := (bt (bt (bg (bt HB hb_36) hg_41 (HB).size) hb_50) hb_259)
            refine XL_nil ?_
            have hB_273 : Below w_40.heap.size w_40 w_268 := (bg (bt (bt hb_50 hb_259) hb_264) hg_269 ((bt hb_50 hb_259)).size)
            refine ⟨(Blk.below hk_42 hB_273), ?_⟩
            refine XG_mid (fuel' := 0) 5 #[true, true, true, true, true, true] _ rfl (by kernel_rfl) (by kernel_rfl) rfl ?_
            refine XL_store (v := .agg #[.int .i64 (((B.can xs).getD i op0).kind), .string (((B.can xs).getD i op0).text), .int .i64 (((B.can xs).getD i op0).vk), .int .i64 (((B.can xs).getD i op0).vn), .string (((B.can xs).getD i op0).vt), .int .i64 (((B.can xs).getD i op0).count), .slice B_31 (((B.can xs).getD i op0).attrs.length) c_32]) rfl rfl rfl (by kernel_rfl) (Blk.below hk_260 (bg hb_264 hg_269 (Nat.le_refl _))) 0 [.int .i64 (((B.can xs).getD i op0).kind), .string (((B.can xs).getD i op0).text), .int .i64 (((B.can xs).getD i op0).vk), .int .i64 (((B.can xs).getD i op0).vn), .string (((B.can xs).getD i op0).vt), .int .i64 (((B.can xs).getD i op0).count), .slice B_31 (((B.can xs).getD i op0).attrs.length) c_32] #[.int .i64 (((B.can xs).getD i op0).kind), .string (((B.can xs).getD i op0).text), .int .i64 (((B.can xs).getD i op0).vk), .int .i64 (((B.can xs).getD i op0).vn), .string (((B.can xs).getD i op0).vt), .int .i64 (((B.can xs).getD i op0).count), .slice B_31 (((B.can xs).getD i op0).attrs.length) c_32] ⟨by kernel_rfl, rfl, by kernel_rfl⟩ ⟨by kernel_rfl, by kernel_rfl⟩ (Nat.le_of_ble_eq_true (by kernel_rfl)) (fun w_274 hg_275 hk_276 hz_277 => ?_)
            have hne_278 : w_258.heap.size ≠ wd_49.heap.size := Nat.ne_of_gt (Nat.lt_of_lt_of_le (Blk.lt hk_260) (Nat.le_refl _))
            have hk_279 := Blk.other hk_270 hg_275 hne_278
            have hB_280 : Below w_15.heap.size w_15 wd_49 := (bt (bg (bt HB hb_36) hg_41 (HB).size) hb_50)
            refine XL_nil ?_
            refine ⟨(Blk.below hk_42 (bg hB_273 hg_275 (hb_50).size)), ?_⟩
            refine XG_done (by kernel_rfl) ?_
            refine X_seq ?_
            refine X_block ?_
            refine X_seq ?_
            refine X_region ?_
            refine xr 2 [(60, .load (.int .i64 (((B.can xs).getD i op0).kind)))] [(60, .int .i64 (((B.can xs).getD i op0).kind))] [56, 57] [LoadsAs Tryd.prog 3 (⟨wl.heap.size, 0, none⟩) (.int .i64 (((B.can xs).getD i op0).kind)) w_274] ⟨loads1 rfl (Blk.cell (Blk.below hk_42 (bg hB_273 hg_275 (hb_50).size)) 0 _ rfl), trivial⟩ ?_
            by_cases c_281 : ((B.can xs).getD i op0).kind = 1
            · have hk1 : ((B.can xs).getD i op0).kind = 1 := c_281
              refine xr 2 [(61, .eq (.bool true))] [(58, .bool true)] [60] [Value.bool (((B.can xs).getD i op0).kind == 1) = Value.bool true] ⟨congrArg Value.bool (beq_iff_eq.2 (c_281)), trivial⟩ ?_
              refine XL_nil ?_
              refine X_cond true rfl ?_
              refine X_seq ?_
              refine X_region ?_
              refine xr 2 [(63, .load (.string (((B.can xs).getD i op0).text)))] [(63, .string (((B.can xs).getD i op0).text))] [10, 58] [LoadsAs Tryd.prog 9 (⟨wl.heap.size, 1, none⟩) (.string (((B.can xs).getD i op0).text)) w_274] ⟨loads1 rfl (Blk.cell (Blk.below hk_42 (bg hB_273 hg_275 (hb_50).size)) 1 _ rfl), trivial⟩ ?_
              refine XL_runes (U.scz ((B.can xs).getD i op0).text) rfl rfl rfl Tryd.underlying9 Tryd.underlying30 Tryd.underlying21 rfl (by rw [U.runes_utf (B.ok_ins hpi hk1).2.2.2.2.2.1]; unfold U.scz; rw [List.map_map]; rfl) (by unfold U.scz; rw [List.length_map]; have := U.sc_le ((B.can xs).getD i op0).text; omega) (fun c_282 w_283 hr_284 hc_285 hb_286 => ?_)
              refine xe0 1 [(1, .slice D cs.length dc), (7, .slice A_13 ((B.can xs).length) c_14), (8, .slice Q nq cq), (11, nv K), (12, pw w_258.heap.size 0), (13, pw wd_49.heap.size 0), (14, .slice (some ⟨w_274.heap.size, 0, none⟩) ((U.scz ((B.can xs).getD i op0).text).length) c_282), (39, .slice A_13 ((B.can xs).length) c_14), (40, .int .i64 ((B.can xs).length : Int)), (41, nv i)] ?_
              refine XL_nil ?_
              refine X_seq ?_
              refine X_region ?_
              have hsp := B.scz_pos (B.ok_ins hpi hk1).2.2.2.2.2.1 (B.ok_ins hpi hk1).2.2.2.2.1
              obtain ⟨k, hke, hkl, hkk⟩ := B.tm_nat2 K (U.scz ((B.can xs).getD i op0).text).length hsp
              rw [hKk] at hkk
              refine xr 5 [(68, .as (.int .i64 (k : Int)))] [(11, nv k)] [] [RunsAs Tryd.prog [(65, .int .i64 (K : Int)), (67, .int .i64 ((U.scz ((B.can xs).getD i op0).text).length : Int))] (Go.Op.binOp Go.BinOp.rem 3 (Go.Operand.tmp 65) (Go.Operand.tmp 67) 3) 3 (.int .i64 (k : Int)) w_283] ⟨runs_bin rfl rfl rfl (by have h_ := run_remP (t := 3) (k := .i64) (a := (K : Int)) (b := ((U.scz ((B.can xs).getD i op0).text).length : Int)) (by omega) w_283; rwa [hke] at h_), trivial⟩ ?_
              refine XL_nil ?_
              obtain ⟨A_290, hA_291⟩ : ∃ A_, (if c_282 = k then ((some ⟨w_274.heap.size, 0, none⟩) : Option Addr) else ((some ⟨w_274.heap.size, 0, none⟩) : Option Addr).map (·.add (k * 1))) = A_ := ⟨_, rfl⟩
              refine X_gen (S := fun w_ => (Kd.int .i32).C w_ (some ⟨w_274.heap.size, 0, none⟩) k (List.take k (U.scz ((B.can xs).getD i op0).text)) ∧ (Kd.int .i32).C w_ A_290 ((U.scz ((B.can xs).getD i op0).text).length - k) (List.drop k (U.scz ((B.can xs).getD i op0).text))) [] 12 #[false, false, false, false, false, false, false, false, false, false, false, false] (by kernel_rfl) (by kernel_rfl) (by kernel_rfl) (fun wd_287 hb_288 hh_289 => ?_)
              refine XG_run (fuel' := 3) ⟨RX.Kd.C_take (m := k) (Kd.R_C (Kd.R_below hr_284 hb_288)) (by omega), (by have h := RX.Kd.C_drop (Kd.R_C (Kd.R_below hr_284 hb_288)) (k := k) (cap := c_282) (by omega) (RX.Kd.R_len hr_284).2; first | (rw [← hA_291]; exact h))⟩ [0, 1, 2, 3, 4, 5, 6, 7, 8] [(71, .as (.slice (some ⟨w_274.heap.size, 0, none⟩) k c_282)), (72, .as (.string (runesBytes (List.take k (U.scz ((B.can xs).getD i op0).text))))), (75, .as (.slice A_290 ((U.scz ((B.can xs).getD i op0).text).length - k) (c_282 - k))), (76, .as (.string (runesBytes (List.drop k (U.scz ((B.can xs).getD i op0).text)))))] [.slice (some ⟨w_274.heap.size, 0, none⟩) ((U.scz ((B.can xs).getD i op0).text).length) c_282, .int .i64 (k : Int), .slice (some ⟨w_274.heap.size, 0, none⟩) k c_282, .string (runesBytes (List.take k (U.scz ((B.can xs).getD i op0).text))), .slice (some ⟨w_274.heap.size, 0, none⟩) ((U.scz ((B.can xs).getD i op0).text).length) c_282, .int .i64 (k : Int), .slice A_290 ((U.scz ((B.can xs).getD i op0).text).length - k) (c_282 - k), .string (runesBytes (List.drop k (U.scz ((B.can xs).getD i op0).text))), .pointer (some ⟨w_258.heap.size, 1, none⟩)] #[true, true, true, true, true, true, true, true, true, false, false, false] [(1, .slice D cs.length dc), (7, .slice A_13 ((B.can xs).length) c_14), (8, .slice Q nq cq), (11, .int .i64 (k : Int)), (12, .pointer (some ⟨w_258.heap.size, 0, none⟩)), (13, .pointer (some ⟨wd_49.heap.size, 0, none⟩)), (39, .slice A_13 ((B.can xs).length) c_14), (40, .int .i64 ((B.can xs).length : Int)), (41, .int .i64 (i : Int)), (72, .string (runesBytes (List.take k (U.scz ((B.can xs).getD i op0).text)))), (76, .string (runesBytes (List.drop k (U.scz ((B.can xs).getD i op0).text)))), (77, .pointer (some ⟨w_258.heap.size, 1, none⟩))] (fun w_ => [RunsAs Tryd.prog [(69, .slice (some ⟨w_274.heap.size, 0, none⟩) ((U.scz ((B.can xs).getD i op0).text).length) c_282), (70, .int .i64 (k : Int))] (Go.Op.slice 30 (Go.Operand.tmp 69) none (some (Go.Operand.tmp 70)) none) 30 (.slice (some ⟨w_274.heap.size, 0, none⟩) k c_282) w_, RunsAs Tryd.prog [(71, .slice (some ⟨w_274.heap.size, 0, none⟩) k c_282)] (Go.Op.convert 30 9 (Go.Operand.tmp 71)) 9 (.string (runesBytes (List.take k (U.scz ((B.can xs).getD i op0).text)))) w_, RunsAs Tryd.prog [(73, .slice (some ⟨w_274.heap.size, 0, none⟩) ((U.scz ((B.can xs).getD i op0).text).length) c_282), (74, .int .i64 (k : Int))] (Go.Op.slice 30 (Go.Operand.tmp 73) (some (Go.Operand.tmp 74)) none none) 30 (.slice A_290 ((U.scz ((B.can xs).getD i op0).text).length - k) (c_282 - k)) w_, RunsAs Tryd.prog [(75, .slice A_290 ((U.scz ((B.can xs).getD i op0).text).length - k) (c_282 - k))] (Go.Op.convert 30 9 (Go.Operand.tmp 75)) 9 (.string (runesBytes (List.drop k (U.scz ((B.can xs).getD i op0).text)))) w_]) (fun _ _ _ _ h => h) (fun w_ => by kernel_rfl) rfl (fun w_ hC_ => ⟨runs_slice_h (h := (k : Int)) rfl rfl rfl rfl (by omega) (by have h := (RX.Kd.R_len hr_284).2; omega), runs_conv rfl (conv_runesC (List.take k (U.scz ((B.can xs).getD i op0).text)) Tryd.underlying30 Tryd.underlying21 Tryd.underlying9 hC_.1), (hA_291 ▸ runs_slice_l (h := (k : Int)) rfl rfl rfl rfl (by omega) (by omega) (by have h := (RX.Kd.R_len hr_284).2; omega)), runs_conv rfl (conv_runesC (List.drop k (U.scz ((B.can xs).getD i op0).text)) Tryd.underlying30 Tryd.underlying21 Tryd.underlying9 hC_.2), trivial⟩) ?_
              refine XG_mid (fuel' := 2) 9 #[true, true, true, true, true, true, true, true, true, true, false, false] _ rfl (by kernel_rfl) (by kernel_rfl) rfl ?_
              refine XL_store (v := .string (runesBytes (List.take k (U.scz ((B.can xs).getD i op0).text)))) rfl rfl rfl (by kernel_rfl) (Blk.below hk_279 (bt hb_286 hb_288)) 1 [.string (runesBytes (List.take k (U.scz ((B.can xs).getD i op0).text)))] #[.int .i64 (((B.can xs).getD i op0).kind), .string (runesBytes (List.take k (U.scz ((B.can xs).getD i op0).text))), .int .i64 (((B.can xs).getD i op0).vk), .int .i64 (((B.can xs).getD i op0).vn), .string (((B.can xs).getD i op0).vt), .int .i64 (((B.can xs).getD i op0).count), .slice B_31 (((B.can xs).getD i op0).attrs.length) c_32] ⟨by kernel_rfl, rfl, by kernel_rfl⟩ ⟨by kernel_rfl, by kernel_rfl⟩ (Nat.le_of_ble_eq_true (by kernel_rfl)) (fun w_292 hg_293 hk_294 hz_295 => ?_)
              have hne_296 : wd_49.heap.size ≠ w_258.heap.size := Nat.ne_of_lt (Nat.lt_of_lt_of_le (Blk.lt hk_260) (Nat.le_refl _))
              have hk_297 := Blk.other (Blk.below hk_276 (bt hb_286 hb_288)) hg_293 hne_296
              have hr_298 := RX.Kd.R_past (Kd.R_below hr_284 hb_288) hg_293 (Nat.lt_of_lt_of_le (Blk.lt hk_265) (Nat.le_trans hg_269.size hg_275.size))
              refine XL_nil ?_
              refine ⟨⟨RX.Kd.C_take (m := k) (Kd.R_C hr_298) (by omega), (by have h := RX.Kd.C_drop (Kd.R_C hr_298) (k := k) (cap := c_282) (by omega) (RX.Kd.R_len hr_284).2; first | (rw [← hA_291]; exact h))⟩, ?_⟩
              refine XG_run (fuel' := 1) ⟨RX.Kd.C_take (m := k) (Kd.R_C hr_298) (by omega), (by have h := RX.Kd.C_drop (Kd.R_C hr_298) (k := k) (cap := c_282) (by omega) (RX.Kd.R_len hr_284).2; first | (rw [← hA_291]; exact h))⟩ [10] [] [.pointer (some ⟨wd_49.heap.size, 1, none⟩)] #[true, true, true, true, true, true, true, true, true, true, true, false] [(1, .slice D cs.length dc), (7, .slice A_13 ((B.can xs).length) c_14), (8, .slice Q nq cq), (11, .int .i64 (k : Int)), (12, .pointer (some ⟨w_258.heap.size, 0, none⟩)), (13, .pointer (some ⟨wd_49.heap.size, 0, none⟩)), (39, .slice A_13 ((B.can xs).length) c_14), (40, .int .i64 ((B.can xs).length : Int)), (41, .int .i64 (i : Int)), (76, .string (runesBytes (List.drop k (U.scz ((B.can xs).getD i op0).text)))), (78, .pointer (some ⟨wd_49.heap.size, 1, none⟩))] (fun w_ => []) (fun _ _ _ _ h => h) (fun w_ => by kernel_rfl) rfl (fun w_ hC_ => trivial) ?_
              refine XG_mid (fuel' := 0) 11 #[true, true, true, true, true, true, true, true, true, true, true, true] _ rfl (by kernel_rfl) (by kernel_rfl) rfl ?_
              refine XL_store (v := .string (runesBytes (List.drop k (U.scz ((B.can xs).getD i op0).text)))) rfl rfl rfl (by kernel_rfl) hk_297 1 [.string (runesBytes (List.drop k (U.scz ((B.can xs).getD i op0).text)))] #[.int .i64 (((B.can xs).getD i op0).kind), .string (runesBytes (List.drop k (U.scz ((B.can xs).getD i op0).text))), .int .i64 (((B.can xs).getD i op0).vk), .int .i64 (((B.can xs).getD i op0).vn), .string (((B.can xs).getD i op0).vt), .int .i64 (((B.can xs).getD i op0).count), .slice B_31 (((B.can xs).getD i op0).attrs.length) c_32] ⟨by kernel_rfl, rfl, by kernel_rfl⟩ ⟨by kernel_rfl, by kernel_rfl⟩ (Nat.le_of_ble_eq_true (by kernel_rfl)) (fun w_299 hg_300 hk_301 hz_302 => ?_)
              have hk_303 := Blk.other hk_294 hg_300 hne_278
              have hr_304 := RX.Kd.R_past hr_298 hg_300 (Nat.lt_of_lt_of_le (Blk.lt hk_260) (Nat.le_trans (Nat.le_trans hb_264.size hg_269.size) hg_275.size))
              refine XL_nil ?_
              refine ⟨⟨RX.Kd.C_take (m := k) (Kd.R_C hr_304) (by omega), (by have h := RX.Kd.C_drop (Kd.R_C hr_304) (k := k) (cap := c_282) (by omega) (RX.Kd.R_len hr_284).2; first | (rw [← hA_291]; exact h))⟩, ?_⟩
              refine XG_done (by kernel_rfl) ?_
              refine X_seq ?_
              refine X_seq ?_
              refine X_region ?_
              refine xr0 1 [(94, nv k)] [11, 76, 78] ?_
              by_cases c_305 : (k : Int) > 0
              · refine xr 1 [(95, .eq (.bool true))] [(95, .bool true)] [94] [Value.bool (decide ((k : Int) > 0)) = Value.bool true] ⟨congrArg Value.bool (decide_eq_true (c_305)), trivial⟩ ?_
                refine XL_nil ?_
                refine X_cond true rfl ?_
                refine X_region ?_
                refine xw 3 [(97, .load (.agg #[.int .i64 (((B.can xs).getD i op0).kind), .string (runesBytes (List.take k (U.scz ((B.can xs).getD i op0).text))), .int .i64 (((B.can xs).getD i op0).vk), .int .i64 (((B.can xs).getD i op0).vn), .string (((B.can xs).getD i op0).vt), .int .i64 (((B.can xs).getD i op0).count), .slice B_31 (((B.can xs).getD i op0).attrs.length) c_32]))] [(96, .slice Q nq cq), (98, .slice (some ⟨w_299.heap.size, 0, none⟩) 1 1)] [8, 12, 95] (w_299.alloc (.cells #[.int .i64 (((B.can xs).getD i op0).kind), .string (runesBytes (List.take k (U.scz ((B.can xs).getD i op0).text))), .int .i64 (((B.can xs).getD i op0).vk), .int .i64 (((B.can xs).getD i op0).vn), .string (((B.can xs).getD i op0).vt), .int .i64 (((B.can xs).getD i op0).count), .slice B_31 (((B.can xs).getD i op0).attrs.length) c_32] 47)) [LoadsAs Tryd.prog 47 (⟨w_258.heap.size, 0, none⟩) (.agg #[.int .i64 (((B.can xs).getD i op0).kind), .string (runesBytes (List.take k (U.scz ((B.can xs).getD i op0).text))), .int .i64 (((B.can xs).getD i op0).vk), .int .i64 (((B.can xs).getD i op0).vn), .string (((B.can xs).getD i op0).vt), .int .i64 (((B.can xs).getD i op0).count), .slice B_31 (((B.can xs).getD i op0).attrs.length) c_32]) w_299] ⟨loadsB rfl rfl hk_303 0 ⟨by kernel_rfl, by kernel_rfl⟩, trivial⟩ ?_
                obtain ⟨w_306, hw_310, hb_307, hk_308, hz_309⟩ := new_world w_299 #[.int .i64 (((B.can xs).getD i op0).kind), .string (runesBytes (List.take k (U.scz ((B.can xs).getD i op0).text))), .int .i64 (((B.can xs).getD i op0).vk), .int .i64 (((B.can xs).getD i op0).vn), .string (((B.can xs).getD i op0).vt), .int .i64 (((B.can xs).getD i op0).count), .slice B_31 (((B.can xs).getD i op0).attrs.length) c_32] 47
                rw [hw_310]
                have hB_311 : Below wl.heap.size wl w_258 := (bt (bt (bg hb_36 hg_41 (Nat.le_refl _)) hb_50) hb_259)
                have hB_312 : Below wl.heap.size wl wd_49 := (bt (bg hb_36 hg_41 (Nat.le_refl _)) hb_50)
                have hB_313 : Below wl.heap.size wl w_306 := (bt (bg (bg (bt (bt (bg (bg (bt (bt (bt (bg hb_36 hg_41 (Nat.le_refl _)) hb_50) hb_259) hb_264) hg_269 (hB_311).size) hg_275 (hB_312).size) hb_286) hb_288) hg_293 (hB_311).size) hg_300 (hB_312).size) hb_307)
                have hR_314 := Kd.R_litB (kRaw 7) (W := w_299) (e := 47) (cs := #[.int .i64 (((B.can xs).getD i op0).kind), .string (runesBytes (List.take k (U.scz ((B.can xs).getD i op0).text))), .int .i64 (((B.can xs).getD i op0).vk), .int .i64 (((B.can xs).getD i op0).vn), .string (((B.can xs).getD i op0).vt), .int .i64 (((B.can xs).getD i op0).count), .slice B_31 (((B.can xs).getD i op0).attrs.length) c_32]) [[.int .i64 (((B.can xs).getD i op0).kind), .string (runesBytes (List.take k (U.scz ((B.can xs).getD i op0).text))), .int .i64 (((B.can xs).getD i op0).vk), .int .i64 (((B.can xs).getD i op0).vn), .string (((B.can xs).getD i op0).vt), .int .i64 (((B.can xs).getD i op0).count), .slice B_31 (((B.can xs).getD i op0).attrs.length) c_32]] hk_308 (rawL1 _ rfl (by kernel_rfl)) (Nat.le_of_ble_eq_true (by kernel_rfl))
                have hB_321 : Below w_15.heap.size w_15 w_306 := (bt (bg (bg (bt (bt (bg (bg (bt hB_272 hb_264) hg_269 (hB_272).size) hg_275 (hB_280).size) hb_286) hb_288) hg_293 (hB_272).size) hg_300 (hB_280).size) hb_307)
                refine XL_appendMixK (d := kOp) (W0 := w_15) (B := w_15.heap.size) (c' := 1) (m := 1) op0 rfl rfl rfl 47 (.agg #[.int .i64 0, .string ByteArray.empty, .int .i64 0, .int .i64 0, .string ByteArray.empty, .int .i64 0, .slice none 0 0]) 88 Tryd.underlying37 info47 rfl (by decide) (by omega) (B.parts (B.can xs) cs i) ([(⟨((B.can xs).getD i op0).kind, (runesBytes (List.take k (U.scz ((B.can xs).getD i op0).text))), ((B.can xs).getD i op0).vk, ((B.can xs).getD i op0).vn, ((B.can xs).getD i op0).vt, ((B.can xs).getD i op0).count, ((B.can xs).getD i op0).attrs⟩ : OpA)]) [[.int .i64 (((B.can xs).getD i op0).kind), .string (runesBytes (List.take k (U.scz ((B.can xs).getD i op0).text))), .int .i64 (((B.can xs).getD i op0).vk), .int .i64 (((B.can xs).getD i op0).vn), .string (((B.can xs).getD i op0).vt), .int .i64 (((B.can xs).getD i op0).count), .slice B_31 (((B.can xs).getD i op0).attrs.length) c_32]] (by kernel_rfl) (MixK.below hmx hB_313) (Kd.R_C hR_314) rfl (fun i_ hi_ => by have h_ : i_ = 0 := (by omega); subst h_; exact (kOp_K_of (x := (⟨((B.can xs).getD i op0).kind, (runesBytes (List.take k (U.scz ((B.can xs).getD i op0).text))), ((B.can xs).getD i op0).vk, ((B.can xs).getD i op0).vn, ((B.can xs).getD i op0).vt, ((B.can xs).getD i op0).count, ((B.can xs).getD i op0).attrs⟩ : OpA)) hl_33 hC_34)) (hB_321).size (by (try simp only [List.length_append, List.length_cons, List.length_nil, List.length_take]); omega) ?_
                intro A_315 c_316 w_317 hm_318 hg_319 hl_320
                have hk_322 := Blk.off (Blk.below hk_301 hb_307) hg_319 (fun x_ e_ => Nat.ne_of_lt (Nat.lt_of_lt_of_le (MixK.lt hmx x_ e_) (hB_312).size))
                have hB_323 : Below wl.heap.size wl w_299 := (bg (bg (bt (bt (bg (bg (bt hB_311 hb_264) hg_269 (hB_311).size) hg_275 (hB_312).size) hb_286) hb_288) hg_293 (hB_311).size) hg_300 (hB_312).size)
                have hk_324 := Blk.off hk_308 hg_319 (fun x_ e_ => Nat.ne_of_lt (Nat.lt_of_lt_of_le (MixK.lt hmx x_ e_) (hB_323).size))
                obtain ⟨z_325, hz_326⟩ : ∃ z_, ((B.parts (B.can xs) cs i) ++ [(⟨((B.can xs).getD i op0).kind, (runesBytes (List.take k (U.scz ((B.can xs).getD i op0).text))), ((B.can xs).getD i op0).vk, ((B.can xs).getD i op0).vn, ((B.can xs).getD i op0).vt, ((B.can xs).getD i op0).count, ((B.can xs).getD i op0).attrs⟩ : OpA)]) = z_ := ⟨_, rfl⟩; rw [hz_326] at hm_318 ⊢
                have hz_325 := congrArg List.length hz_326; simp only [List.length_append, List.length_cons, List.length_nil, List.length_take] at hz_325
                have hB_328 : Below w_15.heap.size w_15 w_317 := (bgo hB_321 hg_319 hl_320 (Nat.le_refl _))
                have hC_327 : kOp.C w_317 A_315 z_325.length z_325 := MixK.C hm_318 hB_328
                refine xr0 1 [(8, .slice A_315 z_325.length c_316)] [96, 98, 99] ?_
                refine XL_nil ?_
                refine X_region ?_
                refine xw 3 [(101, .load (.agg #[.int .i64 (((B.can xs).getD i op0).kind), .string (runesBytes (List.drop k (U.scz ((B.can xs).getD i op0).text))), .int .i64 (((B.can xs).getD i op0).vk), .int .i64 (((B.can xs).getD i op0).vn), .string (((B.can xs).getD i op0).vt), .int .i64 (((B.can xs).getD i op0).count), .slice B_31 (((B.can xs).getD i op0).attrs.length) c_32]))] [(100, .slice A_315 z_325.length c_316), (102, .slice (some ⟨w_317.heap.size, 0, none⟩) 1 1)] [8, 13] (w_317.alloc (.cells #[.int .i64 (((B.can xs).getD i op0).kind), .string (runesBytes (List.drop k (U.scz ((B.can xs).getD i op0).text))), .int .i64 (((B.can xs).getD i op0).vk), .int .i64 (((B.can xs).getD i op0).vn), .string (((B.can xs).getD i op0).vt), .int .i64 (((B.can xs).getD i op0).count), .slice B_31 (((B.can xs).getD i op0).attrs.length) c_32] 47)) [LoadsAs Tryd.prog 47 (⟨wd_49.heap.size, 0, none⟩) (.agg #[.int .i64 (((B.can xs).getD i op0).kind), .string (runesBytes (List.drop k (U.scz ((B.can xs).getD i op0).text))), .int .i64 (((B.can xs).getD i op0).vk), .int .i64 (((B.can xs).getD i op0).vn), .string (((B.can xs).getD i op0).vt), .int .i64 (((B.can xs).getD i op0).count), .slice B_31 (((B.can xs).getD i op0).attrs.length) c_32]) w_317] ⟨loadsB rfl rfl hk_322 0 ⟨by kernel_rfl, by kernel_rfl⟩, trivial⟩ ?_
                obtain ⟨w_329, hw_333, hb_330, hk_331, hz_332⟩ := new_world w_317 #[.int .i64 (((B.can xs).getD i op0).kind), .string (runesBytes (List.drop k (U.scz ((B.can xs).getD i op0).text))), .int .i64 (((B.can xs).getD i op0).vk), .int .i64 (((B.can xs).getD i op0).vn), .string (((B.can xs).getD i op0).vt), .int .i64 (((B.can xs).getD i op0).count), .slice B_31 (((B.can xs).getD i op0).attrs.length) c_32] 47
                rw [hw_333]
                have hR_334 := Kd.R_litB (kRaw 7) (W := w_317) (e := 47) (cs := #[.int .i64 (((B.can xs).getD i op0).kind), .string (runesBytes (List.drop k (U.scz ((B.can xs).getD i op0).text))), .int .i64 (((B.can xs).getD i op0).vk), .int .i64 (((B.can xs).getD i op0).vn), .string (((B.can xs).getD i op0).vt), .int .i64 (((B.can xs).getD i op0).count), .slice B_31 (((B.can xs).getD i op0).attrs.length) c_32]) [[.int .i64 (((B.can xs).getD i op0).kind), .string (runesBytes (List.drop k (U.scz ((B.can xs).getD i op0).text))), .int .i64 (((B.can xs).getD i op0).vk), .int .i64 (((B.can xs).getD i op0).vn), .string (((B.can xs).getD i op0).vt), .int .i64 (((B.can xs).getD i op0).count), .slice B_31 (((B.can xs).getD i op0).attrs.length) c_32]] hk_331 (rawL1 _ rfl (by kernel_rfl)) (Nat.le_of_ble_eq_true (by kernel_rfl))
                refine XL_appendMixK (d := kOp) (W0 := w_15) (B := w_15.heap.size) (c' := 1) (m := 1) op0 rfl rfl rfl 47 (.agg #[.int .i64 0, .string ByteArray.empty, .int .i64 0, .int .i64 0, .string ByteArray.empty, .int .i64 0, .slice none 0 0]) 88 Tryd.underlying37 info47 rfl (by decide) (by omega) z_325 ([(⟨((B.can xs).getD i op0).kind, (runesBytes (List.drop k (U.scz ((B.can xs).getD i op0).text))), ((B.can xs).getD i op0).vk, ((B.can xs).getD i op0).vn, ((B.can xs).getD i op0).vt, ((B.can xs).getD i op0).count, ((B.can xs).getD i op0).attrs⟩ : OpA)]) [[.int .i64 (((B.can xs).getD i op0).kind), .string (runesBytes (List.drop k (U.scz ((B.can xs).getD i op0).text))), .int .i64 (((B.can xs).getD i op0).vk), .int .i64 (((B.can xs).getD i op0).vn), .string (((B.can xs).getD i op0).vt), .int .i64 (((B.can xs).getD i op0).count), .slice B_31 (((B.can xs).getD i op0).attrs.length) c_32]] (by kernel_rfl) (MixK.below hm_318 hb_330) (Kd.R_C hR_334) rfl (fun i_ hi_ => by have h_ : i_ = 0 := (by omega); subst h_; exact (kOp_K_of (x := (⟨((B.can xs).getD i op0).kind, (runesBytes (List.drop k (U.scz ((B.can xs).getD i op0).text))), ((B.can xs).getD i op0).vk, ((B.can xs).getD i op0).vn, ((B.can xs).getD i op0).vt, ((B.can xs).getD i op0).count, ((B.can xs).getD i op0).attrs⟩ : OpA)) hl_33 hC_34)) ((bt hB_328 hb_330)).size (by (try simp only [List.length_append, List.length_cons, List.length_nil, List.length_take]); omega) ?_
                intro A_335 c_336 w_337 hm_338 hg_339 hl_340
                have hk_341 := Blk.off hk_331 hg_339 (fun x_ e_ => Nat.ne_of_lt (Nat.lt_of_lt_of_le (MixK.lt hm_318 x_ e_) (Nat.le_refl _)))
                obtain ⟨z_342, hz_343⟩ : ∃ z_, (z_325 ++ [(⟨((B.can xs).getD i op0).kind, (runesBytes (List.drop k (U.scz ((B.can xs).getD i op0).text))), ((B.can xs).getD i op0).vk, ((B.can xs).getD i op0).vn, ((B.can xs).getD i op0).vt, ((B.can xs).getD i op0).count, ((B.can xs).getD i op0).attrs⟩ : OpA)]) = z_ := ⟨_, rfl⟩; rw [hz_343] at hm_338 ⊢
                have hz_342 := congrArg List.length hz_343; simp only [List.length_append, List.length_cons, List.length_nil, List.length_take] at hz_342
                have hB_345 : Below w_15.heap.size w_15 w_337 := (bgo (bt hB_328 hb_330) hg_339 hl_340 (Nat.le_refl _))
                have hC_344 : kOp.C w_337 A_335 z_342.length z_342 := MixK.C hm_338 hB_345
                refine xe0 1 [(1, .slice D cs.length dc), (7, .slice A_13 ((B.can xs).length) c_14), (8, .slice A_335 z_342.length c_336), (39, .slice A_13 ((B.can xs).length) c_14), (40, .int .i64 ((B.can xs).length : Int)), (41, nv i)] ?_
                refine XL_nil ?_
                refine X_region ?_
                refine xr 2 [(104, .eq (.int .i64 ((i : Int) + 1)))] [(41, .int .i64 ((i : Int) + 1))] [] [Value.int .i64 (IntKind.i64.wrap ((i : Int) + 1)) = Value.int .i64 ((i : Int) + 1)] ⟨wr_i64 (by omega) (by omega), trivial⟩ ?_
                refine XL_nil ?_
                refine ⟨(i + 1, A_335, z_342.length, c_336), by kernel_rfl, ?_, ?_⟩
                · have hpe_ : B.parts (B.can xs) cs (i + 1) = z_342 := by rw [← hz_343, ← hz_326]; show B.parts (B.can xs) cs i ++ B.pcs ((B.can xs).getD i op0) (B.kN cs i) = _; rw [B.pcs_txt (o := ((B.can xs).getD i op0)) hk1 hkk, if_pos (show 0 < k by omega), take1P]
                  refine ⟨by omega, ?_, hB_345⟩
                  rw [hpe_]
                  exact hm_338
                · (try dsimp only); omega
              · refine xr 1 [(95, .eq (.bool false))] [(95, .bool false)] [94] [Value.bool (decide ((k : Int) > 0)) = Value.bool false] ⟨congrArg Value.bool (decide_eq_false (c_305)), trivial⟩ ?_
                refine XL_nil ?_
                refine X_cond false rfl ?_
                refine X_skip ?_
                refine X_region ?_
                refine xw 3 [(101, .load (.agg #[.int .i64 (((B.can xs).getD i op0).kind), .string (runesBytes (List.drop k (U.scz ((B.can xs).getD i op0).text))), .int .i64 (((B.can xs).getD i op0).vk), .int .i64 (((B.can xs).getD i op0).vn), .string (((B.can xs).getD i op0).vt), .int .i64 (((B.can xs).getD i op0).count), .slice B_31 (((B.can xs).getD i op0).attrs.length) c_32]))] [(100, .slice Q nq cq), (102, .slice (some ⟨w_299.heap.size, 0, none⟩) 1 1)] [8, 12, 13, 95] (w_299.alloc (.cells #[.int .i64 (((B.can xs).getD i op0).kind), .string (runesBytes (List.drop k (U.scz ((B.can xs).getD i op0).text))), .int .i64 (((B.can xs).getD i op0).vk), .int .i64 (((B.can xs).getD i op0).vn), .string (((B.can xs).getD i op0).vt), .int .i64 (((B.can xs).getD i op0).count), .slice B_31 (((B.can xs).getD i op0).attrs.length) c_32] 47)) [LoadsAs Tryd.prog 47 (⟨wd_49.heap.size, 0, none⟩) (.agg #[.int .i64 (((B.can xs).getD i op0).kind), .string (runesBytes (List.drop k (U.scz ((B.can xs).getD i op0).text))), .int .i64 (((B.can xs).getD i op0).vk), .int .i64 (((B.can xs).getD i op0).vn), .string (((B.can xs).getD i op0).vt), .int .i64 (((B.can xs).getD i op0).count), .slice B_31 (((B.can xs).getD i op0).attrs.length) c_32]) w_299] ⟨loadsB rfl rfl hk_301 0 ⟨by kernel_rfl, by kernel_rfl⟩, trivial⟩ ?_
                obtain ⟨w_346, hw_350, hb_347, hk_348, hz_349⟩ := new_world w_299 #[.int .i64 (((B.can xs).getD i op0).kind), .string (runesBytes (List.drop k (U.scz ((B.can xs).getD i op0).text))), .int .i64 (((B.can xs).getD i op0).vk), .int .i64 (((B.can xs).getD i op0).vn), .string (((B.can xs).getD i op0).vt), .int .i64 (((B.can xs).getD i op0).count), .slice B_31 (((B.can xs).getD i op0).attrs.length) c_32] 47
                rw [hw_350]
                have hB_351 : Below wl.heap.size wl w_258 := (bt (bt (bg hb_36 hg_41 (Nat.le_refl _)) hb_50) hb_259)
                have hB_352 : Below wl.heap.size wl wd_49 := (bt (bg hb_36 hg_41 (Nat.le_refl _)) hb_50)
                have hB_353 : Below wl.heap.size wl w_346 := (bt (bg (bg (bt (bt (bg (bg (bt (bt (bt (bg hb_36 hg_41 (Nat.le_refl _)) hb_50) hb_259) hb_264) hg_269 (hB_351).size) hg_275 (hB_352).size) hb_286) hb_288) hg_293 (hB_351).size) hg_300 (hB_352).size) hb_347)
                have hR_354 := Kd.R_litB (kRaw 7) (W := w_299) (e := 47) (cs := #[.int .i64 (((B.can xs).getD i op0).kind), .string (runesBytes (List.drop k (U.scz ((B.can xs).getD i op0).text))), .int .i64 (((B.can xs).getD i op0).vk), .int .i64 (((B.can xs).getD i op0).vn), .string (((B.can xs).getD i op0).vt), .int .i64 (((B.can xs).getD i op0).count), .slice B_31 (((B.can xs).getD i op0).attrs.length) c_32]) [[.int .i64 (((B.can xs).getD i op0).kind), .string (runesBytes (List.drop k (U.scz ((B.can xs).getD i op0).text))), .int .i64 (((B.can xs).getD i op0).vk), .int .i64 (((B.can xs).getD i op0).vn), .string (((B.can xs).getD i op0).vt), .int .i64 (((B.can xs).getD i op0).count), .slice B_31 (((B.can xs).getD i op0).attrs.length) c_32]] hk_348 (rawL1 _ rfl (by kernel_rfl)) (Nat.le_of_ble_eq_true (by kernel_rfl))
                have hB_361 : Below w_15.heap.size w_15 w_346 := (bt (bg (bg (bt (bt (bg (bg (bt hB_272 hb_264) hg_269 (hB_272).size) hg_275 (hB_280).size) hb_286) hb_288) hg_293 (hB_272).size) hg_300 (hB_280).size) hb_347)
                refine XL_appendMixK (d := kOp) (W0 := w_15) (B := w_15.heap.size) (c' := 1) (m := 1) op0 rfl rfl rfl 47 (.agg #[.int .i64 0, .string ByteArray.empty, .int .i64 0, .int .i64 0, .string ByteArray.empty, .int .i64 0, .slice none 0 0]) 88 Tryd.underlying37 info47 rfl (by decide) (by omega) (B.parts (B.can xs) cs i) ([(⟨((B.can xs).getD i op0).kind, (runesBytes (List.drop k (U.scz ((B.can xs).getD i op0).text))), ((B.can xs).getD i op0).vk, ((B.can xs).getD i op0).vn, ((B.can xs).getD i op0).vt, ((B.can xs).getD i op0).count, ((B.can xs).getD i op0).attrs⟩ : OpA)]) [[.int .i64 (((B.can xs).getD i op0).kind), .string (runesBytes (List.drop k (U.scz ((B.can xs).getD i op0).text))), .int .i64 (((B.can xs).getD i op0).vk), .int .i64 (((B.can xs).getD i op0).vn), .string (((B.can xs).getD i op0).vt), .int .i64 (((B.can xs).getD i op0).count), .slice B_31 (((B.can xs).getD i op0).attrs.length) c_32]] (by kernel_rfl) (MixK.below hmx hB_353) (Kd.R_C hR_354) rfl (fun i_ hi_ => by have h_ : i_ = 0 := (by omega); subst h_; exact (kOp_K_of (x := (⟨((B.can xs).getD i op0).kind, (runesBytes (List.drop k (U.scz ((B.can xs).getD i op0).text))), ((B.can xs).getD i op0).vk, ((B.can xs).getD i op0).vn, ((B.can xs).getD i op0).vt, ((B.can xs).getD i op0).count, ((B.can xs).getD i op0).attrs⟩ : OpA)) hl_33 hC_34)) (hB_361).size (by (try simp only [List.length_append, List.length_cons, List.length_nil, List.length_take]); omega) ?_
                intro A_355 c_356 w_357 hm_358 hg_359 hl_360
                have hB_362 : Below wl.heap.size wl w_299 := (bg (bg (bt (bt (bg (bg (bt hB_351 hb_264) hg_269 (hB_351).size) hg_275 (hB_352).size) hb_286) hb_288) hg_293 (hB_351).size) hg_300 (hB_352).size)
                have hk_363 := Blk.off hk_348 hg_359 (fun x_ e_ => Nat.ne_of_lt (Nat.lt_of_lt_of_le (MixK.lt hmx x_ e_) (hB_362).size))
                obtain ⟨z_364, hz_365⟩ : ∃ z_, ((B.parts (B.can xs) cs i) ++ [(⟨((B.can xs).getD i op0).kind, (runesBytes (List.drop k (U.scz ((B.can xs).getD i op0).text))), ((B.can xs).getD i op0).vk, ((B.can xs).getD i op0).vn, ((B.can xs).getD i op0).vt, ((B.can xs).getD i op0).count, ((B.can xs).getD i op0).attrs⟩ : OpA)]) = z_ := ⟨_, rfl⟩; rw [hz_365] at hm_358 ⊢
                have hz_364 := congrArg List.length hz_365; simp only [List.length_append, List.length_cons, List.length_nil, List.length_take] at hz_364
                have hB_367 : Below w_15.heap.size w_15 w_357 := (bgo hB_361 hg_359 hl_360 (Nat.le_refl _))
                have hC_366 : kOp.C w_357 A_355 z_364.length z_364 := MixK.C hm_358 hB_367
                refine xr0 1 [(8, .slice A_355 z_364.length c_356)] [100, 102, 103] ?_
                refine XL_nil ?_
                refine X_region ?_
                refine xr 2 [(104, .eq (.int .i64 ((i : Int) + 1)))] [(41, .int .i64 ((i : Int) + 1))] [] [Value.int .i64 (IntKind.i64.wrap ((i : Int) + 1)) = Value.int .i64 ((i : Int) + 1)] ⟨wr_i64 (by omega) (by omega), trivial⟩ ?_
                refine XL_nil ?_
                refine ⟨(i + 1, A_355, z_364.length, c_356), by kernel_rfl, ?_, ?_⟩
                · have hpe_ : B.parts (B.can xs) cs (i + 1) = z_364 := by rw [← hz_365]; show B.parts (B.can xs) cs i ++ B.pcs ((B.can xs).getD i op0) (B.kN cs i) = _; rw [B.pcs_txt (o := ((B.can xs).getD i op0)) hk1 hkk, if_neg (show ¬ 0 < k by omega), List.nil_append]
                  refine ⟨by omega, ?_, hB_367⟩
                  rw [hpe_]
                  exact hm_358
                · (try dsimp only); omega
            · have hk1 : ((B.can xs).getD i op0).kind ≠ 1 := c_281
              refine xr 2 [(61, .eq (.bool false))] [(58, .bool false)] [60] [Value.bool (((B.can xs).getD i op0).kind == 1) = Value.bool false] ⟨congrArg Value.bool (beq_eq_false_iff_ne.2 (c_281)), trivial⟩ ?_
              refine XL_nil ?_
              refine X_cond false rfl ?_
              refine X_seq ?_
              refine X_region ?_
              refine xr 2 [(81, .load (.int .i64 (((B.can xs).getD i op0).kind)))] [(81, .int .i64 (((B.can xs).getD i op0).kind))] [58] [LoadsAs Tryd.prog 3 (⟨wl.heap.size, 0, none⟩) (.int .i64 (((B.can xs).getD i op0).kind)) w_274] ⟨loads1 rfl (Blk.cell (Blk.below hk_42 (bg hB_273 hg_275 (hb_50).size)) 0 _ rfl), trivial⟩ ?_
              by_cases c_368 : ((B.can xs).getD i op0).kind = 2
              · have hk2 : ((B.can xs).getD i op0).kind = 2 := c_368
                refine xe 2 [(82, .eq (.bool false))] [(1, .slice D cs.length dc), (7, .slice A_13 ((B.can xs).length) c_14), (8, .slice Q nq cq), (10, pw wl.heap.size 0), (11, nv K), (12, pw w_258.heap.size 0), (13, pw wd_49.heap.size 0), (39, .slice A_13 ((B.can xs).length) c_14), (40, .int .i64 ((B.can xs).length : Int)), (41, nv i), (79, .bool false)] [Value.bool (((B.can xs).getD i op0).kind != 2) = Value.bool false] ⟨congrArg Value.bool (bneF (c_368)), trivial⟩ ?_
                refine XL_nil ?_
                refine X_cond false rfl ?_
                refine X_region ?_
                refine xr0 1 [(11, .int .i64 0)] [10, 79] ?_
                refine XL_nil ?_
                refine X_seq ?_
                refine X_seq ?_
                refine X_region ?_
                refine xr0 2 [(95, .bool false)] [11] ?_
                refine XL_nil ?_
                refine X_cond false rfl ?_
                refine X_skip ?_
                refine X_region ?_
                refine xw 3 [(101, .load (.agg #[.int .i64 (((B.can xs).getD i op0).kind), .string (((B.can xs).getD i op0).text), .int .i64 (((B.can xs).getD i op0).vk), .int .i64 (((B.can xs).getD i op0).vn), .string (((B.can xs).getD i op0).vt), .int .i64 (((B.can xs).getD i op0).count), .slice B_31 (((B.can xs).getD i op0).attrs.length) c_32]))] [(100, .slice Q nq cq), (102, .slice (some ⟨w_274.heap.size, 0, none⟩) 1 1)] [8, 12, 13, 95] (w_274.alloc (.cells #[.int .i64 (((B.can xs).getD i op0).kind), .string (((B.can xs).getD i op0).text), .int .i64 (((B.can xs).getD i op0).vk), .int .i64 (((B.can xs).getD i op0).vn), .string (((B.can xs).getD i op0).vt), .int .i64 (((B.can xs).getD i op0).count), .slice B_31 (((B.can xs).getD i op0).attrs.length) c_32] 47)) [LoadsAs Tryd.prog 47 (⟨wd_49.heap.size, 0, none⟩) (.agg #[.int .i64 (((B.can xs).getD i op0).kind), .string (((B.can xs).getD i op0).text), .int .i64 (((B.can xs).getD i op0).vk), .int .i64 (((B.can xs).getD i op0).vn), .string (((B.can xs).getD i op0).vt), .int .i64 (((B.can xs).getD i op0).count), .slice B_31 (((B.can xs).getD i op0).attrs.length) c_32]) w_274] ⟨loadsB rfl rfl hk_276 0 ⟨by kernel_rfl, by kernel_rfl⟩, trivial⟩ ?_
                obtain ⟨w_369, hw_373, hb_370, hk_371, hz_372⟩ := new_world w_274 #[.int .i64 (((B.can xs).getD i op0).kind), .string (((B.can xs).getD i op0).text), .int .i64 (((B.can xs).getD i op0).vk), .int .i64 (((B.can xs).getD i op0).vn), .string (((B.can xs).getD i op0).vt), .int .i64 (((B.can xs).getD i op0).count), .slice B_31 (((B.can xs).getD i op0).attrs.length) c_32] 47
                rw [hw_373]
                have hB_374 : Below wl.heap.size wl w_258 := (bt (bt (bg hb_36 hg_41 (Nat.le_refl _)) hb_50) hb_259)
                have hB_375 : Below wl.heap.size wl wd_49 := (bt (bg hb_36 hg_41 (Nat.le_refl _)) hb_50)
                have hB_376 : Below wl.heap.size wl w_369 := (bt (bg (bg (bt (bt (bt (bg hb_36 hg_41 (Nat.le_refl _)) hb_50) hb_259) hb_264) hg_269 (hB_374).size) hg_275 (hB_375).size) hb_370)
                have hR_377 := Kd.R_litB (kRaw 7) (W := w_274) (e := 47) (cs := #[.int .i64 (((B.can xs).getD i op0).kind), .string (((B.can xs).getD i op0).text), .int .i64 (((B.can xs).getD i op0).vk), .int .i64 (((B.can xs).getD i op0).vn), .string (((B.can xs).getD i op0).vt), .int .i64 (((B.can xs).getD i op0).count), .slice B_31 (((B.can xs).getD i op0).attrs.length) c_32]) [[.int .i64 (((B.can xs).getD i op0).kind), .string (((B.can xs).getD i op0).text), .int .i64 (((B.can xs).getD i op0).vk), .int .i64 (((B.can xs).getD i op0).vn), .string (((B.can xs).getD i op0).vt), .int .i64 (((B.can xs).getD i op0).count), .slice B_31 (((B.can xs).getD i op0).attrs.length) c_32]] hk_371 (rawL1 _ rfl (by kernel_rfl)) (Nat.le_of_ble_eq_true (by kernel_rfl))
                have hB_384 : Below w_15.heap.size w_15 w_369 := (bt (bg (bg (bt hB_272 hb_264) hg_269 (hB_272).size) hg_275 (hB_280).size) hb_370)
                refine XL_appendMixK (d := kOp) (W0 := w_15) (B := w_15.heap.size) (c' := 1) (m := 1) op0 rfl rfl rfl 47 (.agg #[.int .i64 0, .string ByteArray.empty, .int .i64 0, .int .i64 0, .string ByteArray.empty, .int .i64 0, .slice none 0 0]) 88 Tryd.underlying37 info47 rfl (by decide) (by omega) (B.parts (B.can xs) cs i) ([((B.can xs).getD i op0)]) [[.int .i64 (((B.can xs).getD i op0).kind), .string (((B.can xs).getD i op0).text), .int .i64 (((B.can xs).getD i op0).vk), .int .i64 (((B.can xs).getD i op0).vn), .string (((B.can xs).getD i op0).vt), .int .i64 (((B.can xs).getD i op0).count), .slice B_31 (((B.can xs).getD i op0).attrs.length) c_32]] (by kernel_rfl) (MixK.below hmx hB_376) (Kd.R_C hR_377) rfl (fun i_ hi_ => by have h_ : i_ = 0 := (by omega); subst h_; exact (kOp_K_of (x := ((B.can xs).getD i op0)) hl_33 hC_34)) (hB_384).size (by (try simp only [List.length_append, List.length_cons, List.length_nil, List.length_take]); omega) ?_
                intro A_378 c_379 w_380 hm_381 hg_382 hl_383
                have hB_385 : Below wl.heap.size wl w_274 := (bg (bg (bt hB_374 hb_264) hg_269 (hB_374).size) hg_275 (hB_375).size)
                have hk_386 := Blk.off hk_371 hg_382 (fun x_ e_ => Nat.ne_of_lt (Nat.lt_of_lt_of_le (MixK.lt hmx x_ e_) (hB_385).size))
                obtain ⟨z_387, hz_388⟩ : ∃ z_, ((B.parts (B.can xs) cs i) ++ [((B.can xs).getD i op0)]) = z_ := ⟨_, rfl⟩; rw [hz_388] at hm_381 ⊢
                have hz_387 := congrArg List.length hz_388; simp only [List.length_append, List.length_cons, List.length_nil, List.length_take] at hz_387
                have hB_390 : Below w_15.heap.size w_15 w_380 := (bgo hB_384 hg_382 hl_383 (Nat.le_refl _))
                have hC_389 : kOp.C w_380 A_378 z_387.length z_387 := MixK.C hm_381 hB_390
                refine xr0 1 [(8, .slice A_378 z_387.length c_379)] [100, 102, 103] ?_
                refine XL_nil ?_
                refine X_region ?_
                refine xr 2 [(104, .eq (.int .i64 ((i : Int) + 1)))] [(41, .int .i64 ((i : Int) + 1))] [] [Value.int .i64 (IntKind.i64.wrap ((i : Int) + 1)) = Value.int .i64 ((i : Int) + 1)] ⟨wr_i64 (by omega) (by omega), trivial⟩ ?_
                refine XL_nil ?_
                refine ⟨(i + 1, A_378, z_387.length, c_379), by kernel_rfl, ?_, ?_⟩
                · have hpe_ : B.parts (B.can xs) cs (i + 1) = z_387 := by rw [← hz_388]; show B.parts (B.can xs) cs i ++ B.pcs ((B.can xs).getD i op0) (B.kN cs i) = _; rw [B.pcs_emb (o := ((B.can xs).getD i op0)) (K := B.kN cs i) hk2]
                  refine ⟨by omega, ?_, hB_390⟩
                  rw [hpe_]
                  exact hm_381
                · (try dsimp only); omega
              · have hk2 : ((B.can xs).getD i op0).kind ≠ 2 := c_368
                refine xe 2 [(82, .eq (.bool true))] [(1, .slice D cs.length dc), (7, .slice A_13 ((B.can xs).length) c_14), (8, .slice Q nq cq), (10, pw wl.heap.size 0), (11, nv K), (12, pw w_258.heap.size 0), (13, pw wd_49.heap.size 0), (39, .slice A_13 ((B.can xs).length) c_14), (40, .int .i64 ((B.can xs).length : Int)), (41, nv i), (79, .bool true)] [Value.bool (((B.can xs).getD i op0).kind != 2) = Value.bool true] ⟨congrArg Value.bool (bneT (c_368)), trivial⟩ ?_
                refine XL_nil ?_
                refine X_cond true rfl ?_
                refine X_seq ?_
                refine X_region ?_
                have hcf := count_of_ok hpi (by have h_ := kind_of_ok hpi; omega)
                obtain ⟨k, hke, hkl, hkk⟩ := B.tm_int K ((B.can xs).getD i op0).count (by omega)
                rw [hKk] at hkk
                refine xr 5 [(85, .load (.int .i64 (((B.can xs).getD i op0).count))), (86, .as (.int .i64 (k : Int)))] [(11, nv k)] [79] [LoadsAs Tryd.prog 3 (⟨wl.heap.size, 5, none⟩) (.int .i64 (((B.can xs).getD i op0).count)) w_274, RunsAs Tryd.prog [(83, .int .i64 (K : Int)), (85, .int .i64 (((B.can xs).getD i op0).count))] (Go.Op.binOp Go.BinOp.rem 3 (Go.Operand.tmp 83) (Go.Operand.tmp 85) 3) 3 (.int .i64 (k : Int)) w_274] ⟨loads1 rfl (Blk.cell (Blk.below hk_42 (bg hB_273 hg_275 (hb_50).size)) 5 _ rfl), runs_bin rfl rfl rfl (by have h_ := run_remP (t := 3) (k := .i64) (a := (K : Int)) (b := (((B.can xs).getD i op0).count)) (by omega) w_274; rwa [hke] at h_), trivial⟩ ?_
                refine XL_nil ?_
                refine X_gen (S := fun w_ => RX.Blk w_ wl.heap.size 47 #[.int .i64 (((B.can xs).getD i op0).kind), .string (((B.can xs).getD i op0).text), .int .i64 (((B.can xs).getD i op0).vk), .int .i64 (((B.can xs).getD i op0).vn), .string (((B.can xs).getD i op0).vt), .int .i64 (((B.can xs).getD i op0).count), .slice B_31 (((B.can xs).getD i op0).attrs.length) c_32]) [] 9 #[false, false, false, false, false, false, false, false, false] (by kernel_rfl) (by kernel_rfl) (by kernel_rfl) (fun wd_391 hb_392 hh_393 => ?_)
                have hB_394 : Below w_40.heap.size w_40 wd_391 := (bt (bg hB_273 hg_275 (hb_50).size) hb_392)
                refine XG_run (fuel' := 3) (Blk.below hk_42 hB_394) [0, 1, 2, 3, 4, 5] [(89, .load (.int .i64 (((B.can xs).getD i op0).count))), (91, .eq (.int .i64 ((((B.can xs).getD i op0).count) - (k : Int))))] [.int .i64 (k : Int), .pointer (some ⟨wl.heap.size, 5, none⟩), .int .i64 (((B.can xs).getD i op0).count), .int .i64 (k : Int), .int .i64 ((((B.can xs).getD i op0).count) - (k : Int)), .pointer (some ⟨w_258.heap.size, 5, none⟩)] #[true, true, true, true, true, true, false, false, false] [(1, .slice D cs.length dc), (7, .slice A_13 ((B.can xs).length) c_14), (8, .slice Q nq cq), (11, .int .i64 (k : Int)), (12, .pointer (some ⟨w_258.heap.size, 0, none⟩)), (13, .pointer (some ⟨wd_49.heap.size, 0, none⟩)), (39, .slice A_13 ((B.can xs).length) c_14), (40, .int .i64 ((B.can xs).length : Int)), (41, .int .i64 (i : Int)), (87, .int .i64 (k : Int)), (91, .int .i64 ((((B.can xs).getD i op0).count) - (k : Int))), (92, .pointer (some ⟨w_258.heap.size, 5, none⟩))] (fun w_ => [LoadsAs Tryd.prog 3 (⟨wl.heap.size, 5, none⟩) (.int .i64 (((B.can xs).getD i op0).count)) w_, Value.int .i64 (IntKind.i64.wrap ((((B.can xs).getD i op0).count) - (k : Int))) = Value.int .i64 ((((B.can xs).getD i op0).count) - (k : Int))]) (fun _ _ _ _ h => h) (fun w_ => by kernel_rfl) rfl (fun w_ hC_ => ⟨loads1 rfl (Blk.cell hC_ 5 _ rfl), wr_i64 (by omega) (by omega), trivial⟩) ?_
                refine XG_mid (fuel' := 2) 6 #[true, true, true, true, true, true, true, false, false] _ rfl (by kernel_rfl) (by kernel_rfl) rfl ?_
                refine XL_store (v := .int .i64 (k : Int)) rfl rfl rfl (by kernel_rfl) (Blk.below hk_279 hb_392) 5 [.int .i64 (k : Int)] #[.int .i64 (((B.can xs).getD i op0).kind), .string (((B.can xs).getD i op0).text), .int .i64 (((B.can xs).getD i op0).vk), .int .i64 (((B.can xs).getD i op0).vn), .string (((B.can xs).getD i op0).vt), .int .i64 (k : Int), .slice B_31 (((B.can xs).getD i op0).attrs.length) c_32] ⟨by kernel_rfl, rfl, by kernel_rfl⟩ ⟨by kernel_rfl, by kernel_rfl⟩ (Nat.le_of_ble_eq_true (by kernel_rfl)) (fun w_395 hg_396 hk_397 hz_398 => ?_)
                have hne_399 : wd_49.heap.size ≠ w_258.heap.size := Nat.ne_of_lt (Nat.lt_of_lt_of_le (Blk.lt hk_260) (Nat.le_refl _))
                have hk_400 := Blk.other (Blk.below hk_276 hb_392) hg_396 hne_399
                refine XL_nil ?_
                have hB_401 : Below w_40.heap.size w_40 w_395 := (bg hB_394 hg_396 ((bt hb_50 hb_259)).size)
                refine ⟨(Blk.below hk_42 hB_401), ?_⟩
                refine XG_run (fuel' := 1) (Blk.below hk_42 hB_401) [7] [] [.pointer (some ⟨wd_49.heap.size, 5, none⟩)] #[true, true, true, true, true, true, true, true, false] [(1, .slice D cs.length dc), (7, .slice A_13 ((B.can xs).length) c_14), (8, .slice Q nq cq), (11, .int .i64 (k : Int)), (12, .pointer (some ⟨w_258.heap.size, 0, none⟩)), (13, .pointer (some ⟨wd_49.heap.size, 0, none⟩)), (39, .slice A_13 ((B.can xs).length) c_14), (40, .int .i64 ((B.can xs).length : Int)), (41, .int .i64 (i : Int)), (91, .int .i64 ((((B.can xs).getD i op0).count) - (k : Int))), (93, .pointer (some ⟨wd_49.heap.size, 5, none⟩))] (fun w_ => []) (fun _ _ _ _ h => h) (fun w_ => by kernel_rfl) rfl (fun w_ hC_ => trivial) ?_
                refine XG_mid (fuel' := 0) 8 #[true, true, true, true, true, true, true, true, true] _ rfl (by kernel_rfl) (by kernel_rfl) rfl ?_
                refine XL_store (v := .int .i64 ((((B.can xs).getD i op0).count) - (k : Int))) rfl rfl rfl (by kernel_rfl) hk_400 5 [.int .i64 ((((B.can xs).getD i op0).count) - (k : Int))] #[.int .i64 (((B.can xs).getD i op0).kind), .string (((B.can xs).getD i op0).text), .int .i64 (((B.can xs).getD i op0).vk), .int .i64 (((B.can xs).getD i op0).vn), .string (((B.can xs).getD i op0).vt), .int .i64 ((((B.can xs).getD i op0).count) - (k : Int)), .slice B_31 (((B.can xs).getD i op0).attrs.length) c_32] ⟨by kernel_rfl, rfl, by kernel_rfl⟩ ⟨by kernel_rfl, by kernel_rfl⟩ (Nat.le_of_ble_eq_true (by kernel_rfl)) (fun w_402 hg_403 hk_404 hz_405 => ?_)
                have hk_406 := Blk.other hk_397 hg_403 hne_278
                refine XL_nil ?_
                refine ⟨(Blk.below hk_42 (bg hB_401 hg_403 (hb_50).size)), ?_⟩
                refine XG_done (by kernel_rfl) ?_
                refine X_seq ?_
                refine X_seq ?_
                refine X_region ?_
                refine xr0 1 [(94, nv k)] [11, 91, 93] ?_
                by_cases c_407 : (k : Int) > 0
                · refine xr 1 [(95, .eq (.bool true))] [(95, .bool true)] [94] [Value.bool (decide ((k : Int) > 0)) = Value.bool true] ⟨congrArg Value.bool (decide_eq_true (c_407)), trivial⟩ ?_
                  refine XL_nil ?_
                  refine X_cond true rfl ?_
                  refine X_region ?_
                  refine xw 3 [(97, .load (.agg #[.int .i64 (((B.can xs).getD i op0).kind), .string (((B.can xs).getD i op0).text), .int .i64 (((B.can xs).getD i op0).vk), .int .i64 (((B.can xs).getD i op0).vn), .string (((B.can xs).getD i op0).vt), .int .i64 (k : Int), .slice B_31 (((B.can xs).getD i op0).attrs.length) c_32]))] [(96, .slice Q nq cq), (98, .slice (some ⟨w_402.heap.size, 0, none⟩) 1 1)] [8, 12, 95] (w_402.alloc (.cells #[.int .i64 (((B.can xs).getD i op0).kind), .string (((B.can xs).getD i op0).text), .int .i64 (((B.can xs).getD i op0).vk), .int .i64 (((B.can xs).getD i op0).vn), .string (((B.can xs).getD i op0).vt), .int .i64 (k : Int), .slice B_31 (((B.can xs).getD i op0).attrs.length) c_32] 47)) [LoadsAs Tryd.prog 47 (⟨w_258.heap.size, 0, none⟩) (.agg #[.int .i64 (((B.can xs).getD i op0).kind), .string (((B.can xs).getD i op0).text), .int .i64 (((B.can xs).getD i op0).vk), .int .i64 (((B.can xs).getD i op0).vn), .string (((B.can xs).getD i op0).vt), .int .i64 (k : Int), .slice B_31 (((B.can xs).getD i op0).attrs.length) c_32]) w_402] ⟨loadsB rfl rfl hk_406 0 ⟨by kernel_rfl, by kernel_rfl⟩, trivial⟩ ?_
                  obtain ⟨w_408, hw_412, hb_409, hk_410, hz_411⟩ := new_world w_402 #[.int .i64 (((B.can xs).getD i op0).kind), .string (((B.can xs).getD i op0).text), .int .i64 (((B.can xs).getD i op0).vk), .int .i64 (((B.can xs).getD i op0).vn), .string (((B.can xs).getD i op0).vt), .int .i64 (k : Int), .slice B_31 (((B.can xs).getD i op0).attrs.length) c_32] 47
                  rw [hw_412]
                  have hB_413 : Below wl.heap.size wl w_258 := (bt (bt (bg hb_36 hg_41 (Nat.le_refl _)) hb_50) hb_259)
                  have hB_414 : Below wl.heap.size wl wd_49 := (bt (bg hb_36 hg_41 (Nat.le_refl _)) hb_50)
                  have hB_415 : Below wl.heap.size wl w_408 := (bt (bg (bg (bt (bg (bg (bt (bt (bt (bg hb_36 hg_41 (Nat.le_refl _)) hb_50) hb_259) hb_264) hg_269 (hB_413).size) hg_275 (hB_414).size) hb_392) hg_396 (hB_413).size) hg_403 (hB_414).size) hb_409)
                  have hR_416 := Kd.R_litB (kRaw 7) (W := w_402) (e := 47) (cs := #[.int .i64 (((B.can xs).getD i op0).kind), .string (((B.can xs).getD i op0).text), .int .i64 (((B.can xs).getD i op0).vk), .int .i64 (((B.can xs).getD i op0).vn), .string (((B.can xs).getD i op0).vt), .int .i64 (k : Int), .slice B_31 (((B.can xs).getD i op0).attrs.length) c_32]) [[.int .i64 (((B.can xs).getD i op0).kind), .string (((B.can xs).getD i op0).text), .int .i64 (((B.can xs).getD i op0).vk), .int .i64 (((B.can xs).getD i op0).vn), .string (((B.can xs).getD i op0).vt), .int .i64 (k : Int), .slice B_31 (((B.can xs).getD i op0).attrs.length) c_32]] hk_410 (rawL1 _ rfl (by kernel_rfl)) (Nat.le_of_ble_eq_true (by kernel_rfl))
                  have hB_423 : Below w_15.heap.size w_15 w_408 := (bt (bg (bg (bt (bg (bg (bt hB_272 hb_264) hg_269 (hB_272).size) hg_275 (hB_280).size) hb_392) hg_396 (hB_272).size) hg_403 (hB_280).size) hb_409)
                  refine XL_appendMixK (d := kOp) (W0 := w_15) (B := w_15.heap.size) (c' := 1) (m := 1) op0 rfl rfl rfl 47 (.agg #[.int .i64 0, .string ByteArray.empty, .int .i64 0, .int .i64 0, .string ByteArray.empty, .int .i64 0, .slice none 0 0]) 88 Tryd.underlying37 info47 rfl (by decide) (by omega) (B.parts (B.can xs) cs i) ([(⟨((B.can xs).getD i op0).kind, ((B.can xs).getD i op0).text, ((B.can xs).getD i op0).vk, ((B.can xs).getD i op0).vn, ((B.can xs).getD i op0).vt, (k : Int), ((B.can xs).getD i op0).attrs⟩ : OpA)]) [[.int .i64 (((B.can xs).getD i op0).kind), .string (((B.can xs).getD i op0).text), .int .i64 (((B.can xs).getD i op0).vk), .int .i64 (((B.can xs).getD i op0).vn), .string (((B.can xs).getD i op0).vt), .int .i64 (k : Int), .slice B_31 (((B.can xs).getD i op0).attrs.length) c_32]] (by kernel_rfl) (MixK.below hmx hB_415) (Kd.R_C hR_416) rfl (fun i_ hi_ => by have h_ : i_ = 0 := (by omega); subst h_; exact (kOp_K_of (x := (⟨((B.can xs).getD i op0).kind, ((B.can xs).getD i op0).text, ((B.can xs).getD i op0).vk, ((B.can xs).getD i op0).vn, ((B.can xs).getD i op0).vt, (k : Int), ((B.can xs).getD i op0).attrs⟩ : OpA)) hl_33 hC_34)) (hB_423).size (by (try simp only [List.length_append, List.length_cons, List.length_nil, List.length_take]); omega) ?_
                  intro A_417 c_418 w_419 hm_420 hg_421 hl_422
                  have hk_424 := Blk.off (Blk.below hk_404 hb_409) hg_421 (fun x_ e_ => Nat.ne_of_lt (Nat.lt_of_lt_of_le (MixK.lt hmx x_ e_) (hB_414).size))
                  have hB_425 : Below wl.heap.size wl w_402 := (bg (bg (bt (bg (bg (bt hB_413 hb_264) hg_269 (hB_413).size) hg_275 (hB_414).size) hb_392) hg_396 (hB_413).size) hg_403 (hB_414).size)
                  have hk_426 := Blk.off hk_410 hg_421 (fun x_ e_ => Nat.ne_of_lt (Nat.lt_of_lt_of_le (MixK.lt hmx x_ e_) (hB_425).size))
                  obtain ⟨z_427, hz_428⟩ : ∃ z_, ((B.parts (B.can xs) cs i) ++ [(⟨((B.can xs).getD i op0).kind, ((B.can xs).getD i op0).text, ((B.can xs).getD i op0).vk, ((B.can xs).getD i op0).vn, ((B.can xs).getD i op0).vt, (k : Int), ((B.can xs).getD i op0).attrs⟩ : OpA)]) = z_ := ⟨_, rfl⟩; rw [hz_428] at hm_420 ⊢
                  have hz_427 := congrArg List.length hz_428; simp only [List.length_append, List.length_cons, List.length_nil, List.length_take] at hz_427
                  have hB_430 : Below w_15.heap.size w_15 w_419 := (bgo hB_423 hg_421 hl_422 (Nat.le_refl _))
                  have hC_429 : kOp.C w_419 A_417 z_427.length z_427 := MixK.C hm_420 hB_430
                  refine xr0 1 [(8, .slice A_417 z_427.length c_418)] [96, 98, 99] ?_
                  refine XL_nil ?_
                  refine X_region ?_
                  refine xw 3 [(101, .load (.agg #[.int .i64 (((B.can xs).getD i op0).kind), .string (((B.can xs).getD i op0).text), .int .i64 (((B.can xs).getD i op0).vk), .int .i64 (((B.can xs).getD i op0).vn), .string (((B.can xs).getD i op0).vt), .int .i64 ((((B.can xs).getD i op0).count) - (k : Int)), .slice B_31 (((B.can xs).getD i op0).attrs.length) c_32]))] [(100, .slice A_417 z_427.length c_418), (102, .slice (some ⟨w_419.heap.size, 0, none⟩) 1 1)] [8, 13] (w_419.alloc (.cells #[.int .i64 (((B.can xs).getD i op0).kind), .string (((B.can xs).getD i op0).text), .int .i64 (((B.can xs).getD i op0).vk), .int .i64 (((B.can xs).getD i op0).vn), .string (((B.can xs).getD i op0).vt), .int .i64 ((((B.can xs).getD i op0).count) - (k : Int)), .slice B_31 (((B.can xs).getD i op0).attrs.length) c_32] 47)) [LoadsAs Tryd.prog 47 (⟨wd_49.heap.size, 0, none⟩) (.agg #[.int .i64 (((B.can xs).getD i op0).kind), .string (((B.can xs).getD i op0).text), .int .i64 (((B.can xs).getD i op0).vk), .int .i64 (((B.can xs).getD i op0).vn), .string (((B.can xs).getD i op0).vt), .int .i64 ((((B.can xs).getD i op0).count) - (k : Int)), .slice B_31 (((B.can xs).getD i op0).attrs.length) c_32]) w_419] ⟨loadsB rfl rfl hk_424 0 ⟨by kernel_rfl, by kernel_rfl⟩, trivial⟩ ?_
                  obtain ⟨w_431, hw_435, hb_432, hk_433, hz_434⟩ := new_world w_419 #[.int .i64 (((B.can xs).getD i op0).kind), .string (((B.can xs).getD i op0).text), .int .i64 (((B.can xs).getD i op0).vk), .int .i64 (((B.can xs).getD i op0).vn), .string (((B.can xs).getD i op0).vt), .int .i64 ((((B.can xs).getD i op0).count) - (k : Int)), .slice B_31 (((B.can xs).getD i op0).attrs.length) c_32] 47
                  rw [hw_435]
                  have hR_436 := Kd.R_litB (kRaw 7) (W := w_419) (e := 47) (cs := #[.int .i64 (((B.can xs).getD i op0).kind), .string (((B.can xs).getD i op0).text), .int .i64 (((B.can xs).getD i op0).vk), .int .i64 (((B.can xs).getD i op0).vn), .string (((B.can xs).getD i op0).vt), .int .i64 ((((B.can xs).getD i op0).count) - (k : Int)), .slice B_31 (((B.can xs).getD i op0).attrs.length) c_32]) [[.int .i64 (((B.can xs).getD i op0).kind), .string (((B.can xs).getD i op0).text), .int .i64 (((B.can xs).getD i op0).vk), .int .i64 (((B.can xs).getD i op0).vn), .string (((B.can xs).getD i op0).vt), .int .i64 ((((B.can xs).getD i op0).count) - (k : Int)), .slice B_31 (((B.can xs).getD i op0).attrs.length) c_32]] hk_433 (rawL1 _ rfl (by kernel_rfl)) (Nat.le_of_ble_eq_true (by kernel_rfl))
                  refine XL_appendMixK (d := kOp) (W0 := w_15) (B := w_15.heap.size) (c' := 1) (m := 1) op0 rfl rfl rfl 47 (.agg #[.int .i64 0, .string ByteArray.empty, .int .i64 0, .int .i64 0, .string ByteArray.empty, .int .i64 0, .slice none 0 0]) 88 Tryd.underlying37 info47 rfl (by decide) (by omega) z_427 ([(⟨((B.can xs).getD i op0).kind, ((B.can xs).getD i op0).text, ((B.can xs).getD i op0).vk, ((B.can xs).getD i op0).vn, ((B.can xs).getD i op0).vt, (((B.can xs).getD i op0).count) - (k : Int), ((B.can xs).getD i op0).attrs⟩ : OpA)]) [[.int .i64 (((B.can xs).getD i op0).kind), .string (((B.can xs).getD i op0).text), .int .i64 (((B.can xs).getD i op0).vk), .int .i64 (((B.can xs).getD i op0).vn), .string (((B.can xs).getD i op0).vt), .int .i64 ((((B.can xs).getD i op0).count) - (k : Int)), .slice B_31 (((B.can xs).getD i op0).attrs.length) c_32]] (by kernel_rfl) (MixK.below hm_420 hb_432) (Kd.R_C hR_436) rfl (fun i_ hi_ => by have h_ : i_ = 0 := (by omega); subst h_; exact (kOp_K_of (x := (⟨((B.can xs).getD i op0).kind, ((B.can xs).getD i op0).text, ((B.can xs).getD i op0).vk, ((B.can xs).getD i op0).vn, ((B.can xs).getD i op0).vt, (((B.can xs).getD i op0).count) - (k : Int), ((B.can xs).getD i op0).attrs⟩ : OpA)) hl_33 hC_34)) ((bt hB_430 hb_432)).size (by (try simp only [List.length_append, List.length_cons, List.length_nil, List.length_take]); omega) ?_
                  intro A_437 c_438 w_439 hm_440 hg_441 hl_442
                  have hk_443 := Blk.off hk_433 hg_441 (fun x_ e_ => Nat.ne_of_lt (Nat.lt_of_lt_of_le (MixK.lt hm_420 x_ e_) (Nat.le_refl _)))
                  obtain ⟨z_444, hz_445⟩ : ∃ z_, (z_427 ++ [(⟨((B.can xs).getD i op0).kind, ((B.can xs).getD i op0).text, ((B.can xs).getD i op0).vk, ((B.can xs).getD i op0).vn, ((B.can xs).getD i op0).vt, (((B.can xs).getD i op0).count) - (k : Int), ((B.can xs).getD i op0).attrs⟩ : OpA)]) = z_ := ⟨_, rfl⟩; rw [hz_445] at hm_440 ⊢
                  have hz_444 := congrArg List.length hz_445; simp only [List.length_append, List.length_cons, List.length_nil, List.length_take] at hz_444
                  have hB_447 : Below w_15.heap.size w_15 w_439 := (bgo (bt hB_430 hb_432) hg_441 hl_442 (Nat.le_refl _))
                  have hC_446 : kOp.C w_439 A_437 z_444.length z_444 := MixK.C hm_440 hB_447
                  refine xe0 1 [(1, .slice D cs.length dc), (7, .slice A_13 ((B.can xs).length) c_14), (8, .slice A_437 z_444.length c_438), (39, .slice A_13 ((B.can xs).length) c_14), (40, .int .i64 ((B.can xs).length : Int)), (41, nv i)] ?_
                  refine XL_nil ?_
                  refine X_region ?_
                  refine xr 2 [(104, .eq (.int .i64 ((i : Int) + 1)))] [(41, .int .i64 ((i : Int) + 1))] [] [Value.int .i64 (IntKind.i64.wrap ((i : Int) + 1)) = Value.int .i64 ((i : Int) + 1)] ⟨wr_i64 (by omega) (by omega), trivial⟩ ?_
                  refine XL_nil ?_
                  refine ⟨(i + 1, A_437, z_444.length, c_438), by kernel_rfl, ?_, ?_⟩
                  · have hpe_ : B.parts (B.can xs) cs (i + 1) = z_444 := by rw [← hz_445, ← hz_428]; show B.parts (B.can xs) cs i ++ B.pcs ((B.can xs).getD i op0) (B.kN cs i) = _; rw [B.pcs_cnt (o := ((B.can xs).getD i op0)) hk1 hk2 hkk, if_pos (show 0 < k by omega), take1P]
                    refine ⟨by omega, ?_, hB_447⟩
                    rw [hpe_]
                    exact hm_440
                  · (try dsimp only); omega
                · refine xr 1 [(95, .eq (.bool false))] [(95, .bool false)] [94] [Value.bool (decide ((k : Int) > 0)) = Value.bool false] ⟨congrArg Value.bool (decide_eq_false (c_407)), trivial⟩ ?_
                  refine XL_nil ?_
                  refine X_cond false rfl ?_
                  refine X_skip ?_
                  refine X_region ?_
                  refine xw 3 [(101, .load (.agg #[.int .i64 (((B.can xs).getD i op0).kind), .string (((B.can xs).getD i op0).text), .int .i64 (((B.can xs).getD i op0).vk), .int .i64 (((B.can xs).getD i op0).vn), .string (((B.can xs).getD i op0).vt), .int .i64 ((((B.can xs).getD i op0).count) - (k : Int)), .slice B_31 (((B.can xs).getD i op0).attrs.length) c_32]))] [(100, .slice Q nq cq), (102, .slice (some ⟨w_402.heap.size, 0, none⟩) 1 1)] [8, 12, 13, 95] (w_402.alloc (.cells #[.int .i64 (((B.can xs).getD i op0).kind), .string (((B.can xs).getD i op0).text), .int .i64 (((B.can xs).getD i op0).vk), .int .i64 (((B.can xs).getD i op0).vn), .string (((B.can xs).getD i op0).vt), .int .i64 ((((B.can xs).getD i op0).count) - (k : Int)), .slice B_31 (((B.can xs).getD i op0).attrs.length) c_32] 47)) [LoadsAs Tryd.prog 47 (⟨wd_49.heap.size, 0, none⟩) (.agg #[.int .i64 (((B.can xs).getD i op0).kind), .string (((B.can xs).getD i op0).text), .int .i64 (((B.can xs).getD i op0).vk), .int .i64 (((B.can xs).getD i op0).vn), .string (((B.can xs).getD i op0).vt), .int .i64 ((((B.can xs).getD i op0).count) - (k : Int)), .slice B_31 (((B.can xs).getD i op0).attrs.length) c_32]) w_402] ⟨loadsB rfl rfl hk_404 0 ⟨by kernel_rfl, by kernel_rfl⟩, trivial⟩ ?_
                  obtain ⟨w_448, hw_452, hb_449, hk_450, hz_451⟩ := new_world w_402 #[.int .i64 (((B.can xs).getD i op0).kind), .string (((B.can xs).getD i op0).text), .int .i64 (((B.can xs).getD i op0).vk), .int .i64 (((B.can xs).getD i op0).vn), .string (((B.can xs).getD i op0).vt), .int .i64 ((((B.can xs).getD i op0).count) - (k : Int)), .slice B_31 (((B.can xs).getD i op0).attrs.length) c_32] 47
                  rw [hw_452]
                  have hB_453 : Below wl.heap.size wl w_258 := (bt (bt (bg hb_36 hg_41 (Nat.le_refl _)) hb_50) hb_259)
                  have hB_454 : Below wl.heap.size wl wd_49 := (bt (bg hb_36 hg_41 (Nat.le_refl _)) hb_50)
                  have hB_455 : Below wl.heap.size wl w_448 := (bt (bg (bg (bt (bg (bg (bt (bt (bt (bg hb_36 hg_41 (Nat.le_refl _)) hb_50) hb_259) hb_264) hg_269 (hB_453).size) hg_275 (hB_454).size) hb_392) hg_396 (hB_453).size) hg_403 (hB_454).size) hb_449)
                  have hR_456 := Kd.R_litB (kRaw 7) (W := w_402) (e := 47) (cs := #[.int .i64 (((B.can xs).getD i op0).kind), .string (((B.can xs).getD i op0).text), .int .i64 (((B.can xs).getD i op0).vk), .int .i64 (((B.can xs).getD i op0).vn), .string (((B.can xs).getD i op0).vt), .int .i64 ((((B.can xs).getD i op0).count) - (k : Int)), .slice B_31 (((B.can xs).getD i op0).attrs.length) c_32]) [[.int .i64 (((B.can xs).getD i op0).kind), .string (((B.can xs).getD i op0).text), .int .i64 (((B.can xs).getD i op0).vk), .int .i64 (((B.can xs).getD i op0).vn), .string (((B.can xs).getD i op0).vt), .int .i64 ((((B.can xs).getD i op0).count) - (k : Int)), .slice B_31 (((B.can xs).getD i op0).attrs.length) c_32]] hk_450 (rawL1 _ rfl (by kernel_rfl)) (Nat.le_of_ble_eq_true (by kernel_rfl))
                  have hB_463 : Below w_15.heap.size w_15 w_448 := (bt (bg (bg (bt (bg (bg (bt hB_272 hb_264) hg_269 (hB_272).size) hg_275 (hB_280).size) hb_392) hg_396 (hB_272).size) hg_403 (hB_280).size) hb_449)
                  refine XL_appendMixK (d := kOp) (W0 := w_15) (B := w_15.heap.size) (c' := 1) (m := 1) op0 rfl rfl rfl 47 (.agg #[.int .i64 0, .string ByteArray.empty, .int .i64 0, .int .i64 0, .string ByteArray.empty, .int .i64 0, .slice none 0 0]) 88 Tryd.underlying37 info47 rfl (by decide) (by omega) (B.parts (B.can xs) cs i) ([(⟨((B.can xs).getD i op0).kind, ((B.can xs).getD i op0).text, ((B.can xs).getD i op0).vk, ((B.can xs).getD i op0).vn, ((B.can xs).getD i op0).vt, (((B.can xs).getD i op0).count) - (k : Int), ((B.can xs).getD i op0).attrs⟩ : OpA)]) [[.int .i64 (((B.can xs).getD i op0).kind), .string (((B.can xs).getD i op0).text), .int .i64 (((B.can xs).getD i op0).vk), .int .i64 (((B.can xs).getD i op0).vn), .string (((B.can xs).getD i op0).vt), .int .i64 ((((B.can xs).getD i op0).count) - (k : Int)), .slice B_31 (((B.can xs).getD i op0).attrs.length) c_32]] (by kernel_rfl) (MixK.below hmx hB_455) (Kd.R_C hR_456) rfl (fun i_ hi_ => by have h_ : i_ = 0 := (by omega); subst h_; exact (kOp_K_of (x := (⟨((B.can xs).getD i op0).kind, ((B.can xs).getD i op0).text, ((B.can xs).getD i op0).vk, ((B.can xs).getD i op0).vn, ((B.can xs).getD i op0).vt, (((B.can xs).getD i op0).count) - (k : Int), ((B.can xs).getD i op0).attrs⟩ : OpA)) hl_33 hC_34)) (hB_463).size (by (try simp only [List.length_append, List.length_cons, List.length_nil, List.length_take]); omega) ?_
                  intro A_457 c_458 w_459 hm_460 hg_461 hl_462
                  have hB_464 : Below wl.heap.size wl w_402 := (bg (bg (bt (bg (bg (bt hB_453 hb_264) hg_269 (hB_453).size) hg_275 (hB_454).size) hb_392) hg_396 (hB_453).size) hg_403 (hB_454).size)
                  have hk_465 := Blk.off hk_450 hg_461 (fun x_ e_ => Nat.ne_of_lt (Nat.lt_of_lt_of_le (MixK.lt hmx x_ e_) (hB_464).size))
                  obtain ⟨z_466, hz_467⟩ : ∃ z_, ((B.parts (B.can xs) cs i) ++ [(⟨((B.can xs).getD i op0).kind, ((B.can xs).getD i op0).text, ((B.can xs).getD i op0).vk, ((B.can xs).getD i op0).vn, ((B.can xs).getD i op0).vt, (((B.can xs).getD i op0).count) - (k : Int), ((B.can xs).getD i op0).attrs⟩ : OpA)]) = z_ := ⟨_, rfl⟩; rw [hz_467] at hm_460 ⊢
                  have hz_466 := congrArg List.length hz_467; simp only [List.length_append, List.length_cons, List.length_nil, List.length_take] at hz_466
                  have hB_469 : Below w_15.heap.size w_15 w_459 := (bgo hB_463 hg_461 hl_462 (Nat.le_refl _))
                  have hC_468 : kOp.C w_459 A_457 z_466.length z_466 := MixK.C hm_460 hB_469
                  refine xr0 1 [(8, .slice A_457 z_466.length c_458)] [100, 102, 103] ?_
                  refine XL_nil ?_
                  refine X_region ?_
                  refine xr 2 [(104, .eq (.int .i64 ((i : Int) + 1)))] [(41, .int .i64 ((i : Int) + 1))] [] [Value.int .i64 (IntKind.i64.wrap ((i : Int) + 1)) = Value.int .i64 ((i : Int) + 1)] ⟨wr_i64 (by omega) (by omega), trivial⟩ ?_
                  refine XL_nil ?_
                  refine ⟨(i + 1, A_457, z_466.length, c_458), by kernel_rfl, ?_, ?_⟩
                  · have hpe_ : B.parts (B.can xs) cs (i + 1) = z_466 := by rw [← hz_467]; show B.parts (B.can xs) cs i ++ B.pcs ((B.can xs).getD i op0) (B.kN cs i) = _; rw [B.pcs_cnt (o := ((B.can xs).getD i op0)) hk1 hk2 hkk, if_neg (show ¬ 0 < k by omega), List.nil_append]
                    refine ⟨by omega, ?_, hB_469⟩
                    rw [hpe_]
                    exact hm_460
                  · (try dsimp only); omega
        · refine xr 1 [(42, .eq (.bool false))] [(42, .bool false)] [] [Value.bool (decide ((i : Int) < ((B.can xs).length : Int))) = Value.bool false] ⟨congrArg Value.bool (decide_eq_false (c_27)), trivial⟩ ?_
          refine XL_nil ?_
          refine X_seq ?_
          refine X_cond false rfl ?_
          refine X_exit ?_
          refine X_seq ?_
          refine X_region ?_
          have hie : i = (B.can xs).length := by omega
          have hpp := hpa i hi
          rw [hie, List.take_length] at hpp
          obtain ⟨PS, hPS⟩ : ∃ x_, B.parts (B.can xs) cs i = x_ := ⟨_, rfl⟩
          have hPS2 := hPS
          rw [hie] at hPS2
          rw [hPS2] at hpp
          rw [hPS] at hmx hpl1 hnq
          subst hnq
          have hPg := hpp.g
          have hpt := B.alk_can hpp hcc_d
          have hsz := B.alk_sz hpp (by omega)
          have hC_470 : kOp.C wl Q PS.length PS := MixK.C hmx HB
          refine xw 1 [] [(8, .slice Q PS.length cq), (105, .slice (some ⟨wl.heap.size, 0, none⟩) 0 0)] [39, 40, 41, 42] (wl.alloc (.cells #[] 47)) [] trivial ?_
          obtain ⟨w_471, hw_475, hb_472, hk_473, hz_474⟩ := new_world wl #[] 47
          rw [hw_475]
          refine xr0 1 [(15, .slice (some ⟨wl.heap.size, 0, none⟩) 0 0)] [105] ?_
          refine XL_nil ?_
          refine X_seq ?_
          refine X_seq ?_
          refine X_region ?_
          refine xr0 3 [(106, .slice Q PS.length cq), (107, .int .i64 (PS.length : Int)), (108, .int .i64 0)] [] ?_
          refine XL_nil ?_
          refine X_block ?_
          have hr_476 := Kd.R_litB kOp (W := wl) (e := 47) (cs := #[]) [] hk_473 (repsOp0 [] (fun _ h => by cases h)) (Nat.le_of_ble_eq_true (by kernel_rfl))
          refine X_loop (ι := Nat × List OpA × Option Addr × Nat) (fun ⟨j, T, Q2, cq2⟩ => [(1, .slice D cs.length dc), (7, .slice A_13 ((B.can xs).length) c_14), (8, .slice Q PS.length cq), (15, .slice Q2 T.length cq2), (106, .slice Q PS.length cq), (107, .int .i64 (PS.length : Int)), (108, .int .i64 (j : Int))]) (fun ⟨j, T, Q2, cq2⟩ wl2 => j ≤ PS.length ∧ MixK kOp op0 47 wl.heap.size w_15 wl2 Q2 T.length cq2 T ∧ B.Alk T (PS.take j) ∧ T.length = j ∧ Below wl.heap.size wl wl2) (fun ⟨j, T, Q2, cq2⟩ => PS.length - j) (0, [], (some ⟨wl.heap.size, 0, none⟩), 0) ⟨Nat.zero_le _, (MixK.nil (z := op0) (B := wl.heap.size) (W0 := w_15) hr_476 (Nat.le_refl _)), by rw [List.take_zero]; exact B.alk_nil, rfl, hb_472⟩ (by kernel_rfl) ?_
          rintro ⟨j, T, Q2, cq2⟩ wl2 ⟨hj, hmx2, halk, hTl, HB2⟩
          have hC_477 : kOp.C wl2 Q2 T.length T := MixK.C hmx2 (bt HB HB2)
          refine X_seq ?_
          refine X_region ?_
          by_cases c_478 : (j : Int) < (PS.length : Int)
          · refine xr 1 [(109, .eq (.bool true))] [(109, .bool true)] [] [Value.bool (decide ((j : Int) < (PS.length : Int))) = Value.bool true] ⟨congrArg Value.bool (decide_eq_true (c_478)), trivial⟩ ?_
            refine XL_nil ?_
            refine X_seq ?_
            refine X_cond true rfl ?_
            refine X_skip ?_
            refine X_seq ?_
            refine X_block ?_
            refine X_seq ?_
            refine X_region ?_
            refine xr0 1 [(110, nv j)] [109] ?_
            obtain ⟨ad_479, B_482, c_483, ha_480, hc_481, hl_484, hC_485⟩ := MixK.op (MixK.below hmx HB2) (i := (j : Int)) (by omega) (by omega)
            replace hc_481 : CellsAt wl2 (ad_479.add ((j : Int).toNat * 7)) [.int .i64 ((PS.getD j op0).kind), .string ((PS.getD j op0).text), .int .i64 ((PS.getD j op0).vk), .int .i64 ((PS.getD j op0).vn), .string ((PS.getD j op0).vt), .int .i64 ((PS.getD j op0).count), .slice B_482 ((PS.getD j op0).attrs.length) c_483] := hc_481
            replace hl_484 : (PS.getD j op0).attrs.length ≤ c_483 := hl_484
            replace hC_485 : kAttr.C w_15 B_482 ((PS.getD j op0).attrs.length) (PS.getD j op0).attrs := hC_485
            refine xw 3 [(111, .idx ad_479), (112, .load (.agg #[.int .i64 ((PS.getD j op0).kind), .string ((PS.getD j op0).text), .int .i64 ((PS.getD j op0).vk), .int .i64 ((PS.getD j op0).vn), .string ((PS.getD j op0).vt), .int .i64 ((PS.getD j op0).count), .slice B_482 ((PS.getD j op0).attrs.length) c_483]))] [(17, pw wl2.heap.size 0), (112, .agg #[.int .i64 ((PS.getD j op0).kind), .string ((PS.getD j op0).text), .int .i64 ((PS.getD j op0).vk), .int .i64 ((PS.getD j op0).vn), .string ((PS.getD j op0).vt), .int .i64 ((PS.getD j op0).count), .slice B_482 ((PS.getD j op0).attrs.length) c_483])] [] (wl2.alloc (.cells #[.int .i64 0, .string ByteArray.empty, .int .i64 0, .int .i64 0, .string ByteArray.empty, .int .i64 0, .slice none 0 0] 47)) [Q = some ad_479, (0 : Int) ≤ (j : Int), (j : Int) < (PS.length : Int), LoadsAs Tryd.prog 47 (ad_479.add ((j : Int).toNat * 7)) (.agg #[.int .i64 ((PS.getD j op0).kind), .string ((PS.getD j op0).text), .int .i64 ((PS.getD j op0).vk), .int .i64 ((PS.getD j op0).vn), .string ((PS.getD j op0).vt), .int .i64 ((PS.getD j op0).count), .slice B_482 ((PS.getD j op0).attrs.length) c_483]) wl2] ⟨ha_480, (by omega), (by omega), loadsE rfl rfl hc_481 0 ⟨by kernel_rfl, by kernel_rfl⟩, trivial⟩ ?_
            obtain ⟨w_486, hw_490, hb_487, hk_488, hz_489⟩ := new_world wl2 #[.int .i64 0, .string ByteArray.empty, .int .i64 0, .int .i64 0, .string ByteArray.empty, .int .i64 0, .slice none 0 0] 47
            rw [hw_490]
            refine xr0 1 [(16, nv j)] [110] ?_
            refine XL_store (v := .agg #[.int .i64 ((PS.getD j op0).kind), .string ((PS.getD j op0).text), .int .i64 ((PS.getD j op0).vk), .int .i64 ((PS.getD j op0).vn), .string ((PS.getD j op0).vt), .int .i64 ((PS.getD j op0).count), .slice B_482 ((PS.getD j op0).attrs.length) c_483]) rfl rfl rfl (by kernel_rfl) hk_488 0 [.int .i64 ((PS.getD j op0).kind), .string ((PS.getD j op0).text), .int .i64 ((PS.getD j op0).vk), .int .i64 ((PS.getD j op0).vn), .string ((PS.getD j op0).vt), .int .i64 ((PS.getD j op0).count), .slice B_482 ((PS.getD j op0).attrs.length) c_483] #[.int .i64 ((PS.getD j op0).kind), .string ((PS.getD j op0).text), .int .i64 ((PS.getD j op0).vk), .int .i64 ((PS.getD j op0).vn), .string ((PS.getD j op0).vt), .int .i64 ((PS.getD j op0).count), .slice B_482 ((PS.getD j op0).attrs.length) c_483] ⟨by kernel_rfl, rfl, by kernel_rfl⟩ ⟨by kernel_rfl, by kernel_rfl⟩ (Nat.le_of_ble_eq_true (by kernel_rfl)) (fun w_491 hg_492 hk_493 hz_494 => ?_)
            refine XL_nil ?_
            refine X_seq ?_
            refine X_region ?_
            have hpj := badE_getD hPg (show j < PS.length by omega)
            have hfj := hpp.f _ (getD_mem op0 (show j < PS.length by omega))
            refine xr0 3 [(18, .int .i64 (T.length : Int))] [112] ?_
            refine XL_nil ?_
            refine X_seq ?_
            refine X_seq ?_
            refine X_region ?_
            refine xe 2 [(116, .load (.int .i64 ((PS.getD j op0).kind)))] [(1, .slice D cs.length dc), (7, .slice A_13 ((B.can xs).length) c_14), (8, .slice Q PS.length cq), (15, .slice Q2 T.length cq2), (16, nv j), (17, pw wl2.heap.size 0), (18, .int .i64 (T.length : Int)), (106, .slice Q PS.length cq), (107, .int .i64 (PS.length : Int)), (108, nv j), (116, .int .i64 ((PS.getD j op0).kind))] [LoadsAs Tryd.prog 3 (⟨wl2.heap.size, 0, none⟩) (.int .i64 ((PS.getD j op0).kind)) w_491] ⟨loads1 rfl (Blk.cell hk_493 0 _ rfl), trivial⟩ ?_
            by_cases c_495 : (PS.getD j op0).kind = 4
            · refine xr 3 [(117, .eq (.bool true))] [(118, .bool true), (119, .int .i64 (T.length : Int))] [116] [Value.bool ((PS.getD j op0).kind == 4) = Value.bool true] ⟨congrArg Value.bool (beq_iff_eq.2 (c_495)), trivial⟩ ?_
              by_cases c_496 : (T.length : Int) > 0
              · refine xr 6 [(120, .eq (.bool true)), (125, .eq (.int .i64 ((T.length : Int) - 1)))] [(122, .bool true), (123, .slice Q2 T.length cq2), (125, .int .i64 ((T.length : Int) - 1))] [118, 119] [Value.bool (decide ((T.length : Int) > 0)) = Value.bool true, Value.int .i64 (IntKind.i64.wrap ((T.length : Int) - 1)) = Value.int .i64 ((T.length : Int) - 1)] ⟨congrArg Value.bool (decide_eq_true (c_496)), wr_i64 (by omega) (by omega), trivial⟩ ?_
                obtain ⟨ad_497, B_500, c_501, ha_498, hc_499, hl_502, hC_503⟩ := MixK.op (MixK.below hmx2 (bg hb_487 hg_492 (Nat.le_refl _))) (i := (T.length : Int) - 1) (by omega) (by omega)
                replace hc_499 : CellsAt w_491 (ad_497.add (((T.length : Int) - 1).toNat * 7)) [.int .i64 ((T.getD ((T.length : Int) - 1).toNat op0).kind), .string ((T.getD ((T.length : Int) - 1).toNat op0).text), .int .i64 ((T.getD ((T.length : Int) - 1).toNat op0).vk), .int .i64 ((T.getD ((T.length : Int) - 1).toNat op0).vn), .string ((T.getD ((T.length : Int) - 1).toNat op0).vt), .int .i64 ((T.getD ((T.length : Int) - 1).toNat op0).count), .slice B_500 ((T.getD ((T.length : Int) - 1).toNat op0).attrs.length) c_501] := hc_499
                replace hl_502 : (T.getD ((T.length : Int) - 1).toNat op0).attrs.length ≤ c_501 := hl_502
                replace hC_503 : kAttr.C w_15 B_500 ((T.getD ((T.length : Int) - 1).toNat op0).attrs.length) (T.getD ((T.length : Int) - 1).toNat op0).attrs := hC_503
                refine xr 2 [(126, .idx ad_497), (127, .load (.agg #[.int .i64 ((T.getD ((T.length : Int) - 1).toNat op0).kind), .string ((T.getD ((T.length : Int) - 1).toNat op0).text), .int .i64 ((T.getD ((T.length : Int) - 1).toNat op0).vk), .int .i64 ((T.getD ((T.length : Int) - 1).toNat op0).vn), .string ((T.getD ((T.length : Int) - 1).toNat op0).vt), .int .i64 ((T.getD ((T.length : Int) - 1).toNat op0).count), .slice B_500 ((T.getD ((T.length : Int) - 1).toNat op0).attrs.length) c_501]))] [(127, .agg #[.int .i64 ((T.getD ((T.length : Int) - 1).toNat op0).kind), .string ((T.getD ((T.length : Int) - 1).toNat op0).text), .int .i64 ((T.getD ((T.length : Int) - 1).toNat op0).vk), .int .i64 ((T.getD ((T.length : Int) - 1).toNat op0).vn), .string ((T.getD ((T.length : Int) - 1).toNat op0).vt), .int .i64 ((T.getD ((T.length : Int) - 1).toNat op0).count), .slice B_500 ((T.getD ((T.length : Int) - 1).toNat op0).attrs.length) c_501])] [123, 125] [Q2 = some ad_497, (0 : Int) ≤ (T.length : Int) - 1, (T.length : Int) - 1 < (T.length : Int), LoadsAs Tryd.prog 47 (ad_497.add (((T.length : Int) - 1).toNat * 7)) (.agg #[.int .i64 ((T.getD ((T.length : Int) - 1).toNat op0).kind), .string ((T.getD ((T.length : Int) - 1).toNat op0).text), .int .i64 ((T.getD ((T.length : Int) - 1).toNat op0).vk), .int .i64 ((T.getD ((T.length : Int) - 1).toNat op0).vn), .string ((T.getD ((T.length : Int) - 1).toNat op0).vt), .int .i64 ((T.getD ((T.length : Int) - 1).toNat op0).count), .slice B_500 ((T.getD ((T.length : Int) - 1).toNat op0).attrs.length) c_501]) w_491] ⟨ha_498, (by omega), (by omega), loadsE rfl rfl hc_499 0 ⟨by kernel_rfl, by kernel_rfl⟩, trivial⟩ ?_
                have hB_504 : Below w_15.heap.size w_15 w_491 := (bg (bt (bt HB HB2) hb_487) hg_492 ((bt HB HB2)).size)
                refine XL_call 28 rfl rfl rfl ent28 [.agg #[.int .i64 ((T.getD ((T.length : Int) - 1).toNat op0).kind), .string ((T.getD ((T.length : Int) - 1).toNat op0).text), .int .i64 ((T.getD ((T.length : Int) - 1).toNat op0).vk), .int .i64 ((T.getD ((T.length : Int) - 1).toNat op0).vn), .string ((T.getD ((T.length : Int) - 1).toNat op0).vt), .int .i64 ((T.getD ((T.length : Int) - 1).toNat op0).count), .slice B_500 ((T.getD ((T.length : Int) - 1).toNat op0).attrs.length) c_501]] (by kernel_rfl) (r6ins_any (T.getD ((T.length : Int) - 1).toNat op0) _ _ _ (Kd.C_below hC_503 hB_504)) ?_
                rintro e w_505 ⟨rfl, hb_506⟩; refine ⟨_, rfl, ?_⟩
                refine xr0 2 [(130, .bool (decide (insO (T.getD ((T.length : Int) - 1).toNat op0))))] [122, 127, 128] ?_
                by_cases c_507 : decide (insO (T.getD ((T.length : Int) - 1).toNat op0)) = true
                · rw [show (decide (insO (T.getD ((T.length : Int) - 1).toNat op0)) : Bool) = true from by simpa using c_507]
                  obtain ⟨q, hqe, hq, hqi⟩ := B.tm_nat2 j cs.length hcs0
                  refine xr 5 [(135, .as (.int .i64 (q : Int)))] [(130, .bool true), (131, .slice D cs.length dc), (135, nv q)] [16] [RunsAs Tryd.prog [(132, .int .i64 (j : Int)), (134, .int .i64 (cs.length : Int))] (Go.Op.binOp Go.BinOp.rem 3 (Go.Operand.tmp 132) (Go.Operand.tmp 134) 3) 3 (.int .i64 (q : Int)) w_505] ⟨runs_bin rfl rfl rfl (by have h_ := run_remP (t := 3) (k := .i64) (a := (j : Int)) (b := (cs.length : Int)) (by omega) w_505; rwa [hqe] at h_), trivial⟩ ?_
                  have hB_508 : Below w.heap.size w wl2 := (bt (bt (bt (bt (bt hb_2 hb_4) hb_7) hb_18) HB) HB2)
                  have hB_509 : Below w.heap.size w w_505 := (bt (bg (bt (bt (bt (bt (bt (bt hb_2 hb_4) hb_7) hb_18) HB) HB2) hb_487) hg_492 (hB_508).size) hb_506)
                  obtain ⟨ad_510, ha_511, hc_512⟩ := Kd.atI (Kd.C_below hd hB_509) (i := (q : Int)) (by omega) (by omega)
                  refine xe 3 [(136, .idx ad_510), (137, .load (.int .i64 (rd cs (q : Int))))] [(1, .slice D cs.length dc), (7, .slice A_13 ((B.can xs).length) c_14), (8, .slice Q PS.length cq), (15, .slice Q2 T.length cq2), (17, pw wl2.heap.size 0), (18, .int .i64 (T.length : Int)), (106, .slice Q PS.length cq), (107, .int .i64 (PS.length : Int)), (108, nv j), (130, .bool true), (138, .int .i64 (Int.tmod (rd cs (q : Int)) 2))] [D = some ad_510, (0 : Int) ≤ (q : Int), (q : Int) < (cs.length : Int), LoadsAs Tryd.prog 3 (ad_510.add ((q : Int).toNat * 1)) (.int .i64 (rd cs (q : Int))) w_505] ⟨ha_511, (by omega), (by omega), loads1 rfl (elem_cell hc_512 0 _ rfl), trivial⟩ ?_
                  by_cases c_513 : Int.tmod (rd cs (q : Int)) 2 = 0
                  · refine xr 2 [(139, .eq (.bool true))] [(140, .bool true)] [130, 138] [Value.bool (Int.tmod (rd cs (q : Int)) 2 == 0) = Value.bool true] ⟨congrArg Value.bool (beq_iff_eq.2 (c_513)), trivial⟩ ?_
                    refine XL_nil ?_
                    refine X_cond true rfl ?_
                    refine X_seq ?_
                    refine X_grow [13] 15 #[false, false, false, false, false, false, false, false, false, false, false, false, false, false, false] (by kernel_rfl) (by kernel_rfl) (by kernel_rfl) (fun wd_514 hb_515 hh_516 => ?_)
                    have hC_517 := RX.Kd.C_take (m := ((T.length : Int) - 1).toNat) hC_477 (by first | omega | (simp; done) | (simp; omega))
                    refine XB_run (fuel' := 7) (Below.refl _ _) [1, 2, 3, 4, 6, 7, 8, 9] [(144, .eq (.int .i64 ((T.length : Int) - 1))), (145, .as (.slice Q2 (((T.length : Int) - 1).toNat) cq2)), (147, .load (.agg #[.int .i64 ((PS.getD j op0).kind), .string ((PS.getD j op0).text), .int .i64 ((PS.getD j op0).vk), .int .i64 ((PS.getD j op0).vn), .string ((PS.getD j op0).vt), .int .i64 ((PS.getD j op0).count), .slice B_482 ((PS.getD j op0).attrs.length) c_483])), (150, .eq (.int .i64 ((T.length : Int) - 1)))] [.slice Q2 T.length cq2, .int .i64 (T.length : Int), .int .i64 ((T.length : Int) - 1), .slice Q2 (((T.length : Int) - 1).toNat) cq2, .agg #[.int .i64 ((PS.getD j op0).kind), .string ((PS.getD j op0).text), .int .i64 ((PS.getD j op0).vk), .int .i64 ((PS.getD j op0).vn), .string ((PS.getD j op0).vt), .int .i64 ((PS.getD j op0).count), .slice B_482 ((PS.getD j op0).attrs.length) c_483], .slice Q2 T.length cq2, .int .i64 (T.length : Int), .int .i64 ((T.length : Int) - 1)] #[false, true, true, true, true, false, true, true, true, true, false, false, false, false, false] [(1, .slice D cs.length dc), (7, .slice A_13 ((B.can xs).length) c_14), (8, .slice Q PS.length cq), (106, .slice Q PS.length cq), (107, .int .i64 (PS.length : Int)), (108, .int .i64 (j : Int)), (145, .slice Q2 (((T.length : Int) - 1).toNat) cq2), (147, .agg #[.int .i64 ((PS.getD j op0).kind), .string ((PS.getD j op0).text), .int .i64 ((PS.getD j op0).vk), .int .i64 ((PS.getD j op0).vn), .string ((PS.getD j op0).vt), .int .i64 ((PS.getD j op0).count), .slice B_482 ((PS.getD j op0).attrs.length) c_483]), (148, .slice Q2 T.length cq2), (150, .int .i64 ((T.length : Int) - 1))] (fun w_ => [Value.int .i64 (IntKind.i64.wrap ((T.length : Int) - 1)) = Value.int .i64 ((T.length : Int) - 1), RunsAs Tryd.prog [(142, .slice Q2 T.length cq2), (144, .int .i64 ((T.length : Int) - 1))] (Go.Op.slice 37 (Go.Operand.tmp 142) none (some (Go.Operand.tmp 144)) none) 37 (.slice Q2 (((T.length : Int) - 1).toNat) cq2) w_, LoadsAs Tryd.prog 47 (⟨wl2.heap.size, 0, none⟩) (.agg #[.int .i64 ((PS.getD j op0).kind), .string ((PS.getD j op0).text), .int .i64 ((PS.getD j op0).vk), .int .i64 ((PS.getD j op0).vn), .string ((PS.getD j op0).vt), .int .i64 ((PS.getD j op0).count), .slice B_482 ((PS.getD j op0).attrs.length) c_483]) w_, Value.int .i64 (IntKind.i64.wrap ((T.length : Int) - 1)) = Value.int .i64 ((T.length : Int) - 1)]) (fun _ _ _ _ h => h) (fun w_ => by kernel_rfl) rfl (fun w_ hC_ => ⟨wr_i64 (by omega) (by omega), runs_slice_h (h := (T.length : Int) - 1) rfl rfl rfl rfl (by omega) (by have h := (MixK.len hmx2).2; (try simp only [List.length_append, List.length_cons, List.length_nil] at h); omega), loadsB rfl rfl (Blk.below hk_493 (bt (bt hb_506 hb_515) hC_)) 0 ⟨by kernel_rfl, by kernel_rfl⟩, wr_i64 (by omega) (by omega), trivial⟩) ?_
                    have hB_518 : Below wl2.heap.size wl2 wd_514 := (bt (bt (bg hb_487 hg_492 (Nat.le_refl _)) hb_506) hb_515)
                    obtain ⟨ad_519, B_522, c_523, ha_520, hc_521, hl_524, hC_525⟩ := MixK.op (MixK.below hmx2 hB_518) (i := (T.length : Int) - 1) (by omega) (by omega)
                    replace hc_521 : CellsAt wd_514 (ad_519.add (((T.length : Int) - 1).toNat * 7)) [.int .i64 ((T.getD ((T.length : Int) - 1).toNat op0).kind), .string ((T.getD ((T.length : Int) - 1).toNat op0).text), .int .i64 ((T.getD ((T.length : Int) - 1).toNat op0).vk), .int .i64 ((T.getD ((T.length : Int) - 1).toNat op0).vn), .string ((T.getD ((T.length : Int) - 1).toNat op0).vt), .int .i64 ((T.getD ((T.length : Int) - 1).toNat op0).count), .slice B_522 ((T.getD ((T.length : Int) - 1).toNat op0).attrs.length) c_523] := hc_521
                    replace hl_524 : (T.getD ((T.length : Int) - 1).toNat op0).attrs.length ≤ c_523 := hl_524
                    replace hC_525 : kAttr.C w_15 B_522 ((T.getD ((T.length : Int) - 1).toNat op0).attrs.length) (T.getD ((T.length : Int) - 1).toNat op0).attrs := hC_525
                    refine XB_run (fuel' := 5) (Below.refl _ _) [10, 11] [(151, .idx ad_519), (152, .load (.agg #[.int .i64 ((T.getD ((T.length : Int) - 1).toNat op0).kind), .string ((T.getD ((T.length : Int) - 1).toNat op0).text), .int .i64 ((T.getD ((T.length : Int) - 1).toNat op0).vk), .int .i64 ((T.getD ((T.length : Int) - 1).toNat op0).vn), .string ((T.getD ((T.length : Int) - 1).toNat op0).vt), .int .i64 ((T.getD ((T.length : Int) - 1).toNat op0).count), .slice B_522 ((T.getD ((T.length : Int) - 1).toNat op0).attrs.length) c_523]))] [.pointer (some (ad_519.add (((T.length : Int) - 1).toNat * 7))), .agg #[.int .i64 ((T.getD ((T.length : Int) - 1).toNat op0).kind), .string ((T.getD ((T.length : Int) - 1).toNat op0).text), .int .i64 ((T.getD ((T.length : Int) - 1).toNat op0).vk), .int .i64 ((T.getD ((T.length : Int) - 1).toNat op0).vn), .string ((T.getD ((T.length : Int) - 1).toNat op0).vt), .int .i64 ((T.getD ((T.length : Int) - 1).toNat op0).count), .slice B_522 ((T.getD ((T.length : Int) - 1).toNat op0).attrs.length) c_523]] #[false, true, true, true, true, false, true, true, true, true, true, true, false, false, false] [(1, .slice D cs.length dc), (7, .slice A_13 ((B.can xs).length) c_14), (8, .slice Q PS.length cq), (106, .slice Q PS.length cq), (107, .int .i64 (PS.length : Int)), (108, .int .i64 (j : Int)), (145, .slice Q2 (((T.length : Int) - 1).toNat) cq2), (147, .agg #[.int .i64 ((PS.getD j op0).kind), .string ((PS.getD j op0).text), .int .i64 ((PS.getD j op0).vk), .int .i64 ((PS.getD j op0).vn), .string ((PS.getD j op0).vt), .int .i64 ((PS.getD j op0).count), .slice B_482 ((PS.getD j op0).attrs.length) c_483]), (152, .agg #[.int .i64 ((T.getD ((T.length : Int) - 1).toNat op0).kind), .string ((T.getD ((T.length : Int) - 1).toNat op0).text), .int .i64 ((T.getD ((T.length : Int) - 1).toNat op0).vk), .int .i64 ((T.getD ((T.length : Int) - 1).toNat op0).vn), .string ((T.getD ((T.length : Int) - 1).toNat op0).vt), .int .i64 ((T.getD ((T.length : Int) - 1).toNat op0).count), .slice B_522 ((T.getD ((T.length : Int) - 1).toNat op0).attrs.length) c_523])] (fun w_ => [Q2 = some ad_519, (0 : Int) ≤ (T.length : Int) - 1, (T.length : Int) - 1 < (T.length : Int), LoadsAs Tryd.prog 47 (ad_519.add (((T.length : Int) - 1).toNat * 7)) (.agg #[.int .i64 ((T.getD ((T.length : Int) - 1).toNat op0).kind), .string ((T.getD ((T.length : Int) - 1).toNat op0).text), .int .i64 ((T.getD ((T.length : Int) - 1).toNat op0).vk), .int .i64 ((T.getD ((T.length : Int) - 1).toNat op0).vn), .string ((T.getD ((T.length : Int) - 1).toNat op0).vt), .int .i64 ((T.getD ((T.length : Int) - 1).toNat op0).count), .slice B_522 ((T.getD ((T.length : Int) - 1).toNat op0).attrs.length) c_523]) w_]) (fun _ _ _ _ h => h) (fun w_ => by kernel_rfl) rfl (fun w_ hC_ => ⟨ha_520, (by omega), (by omega), loadsE rfl rfl (cells_below hc_521 hC_) 0 ⟨by kernel_rfl, by kernel_rfl⟩, trivial⟩) ?_
                    refine XB_two (fuel' := 4) 0 12 #[true, true, true, true, true, false, true, true, true, true, true, true, false, false, false] #[false, true, true, true, true, false, true, true, true, true, true, true, true, false, false] _ _ rfl rfl (by kernel_rfl) (by kernel_rfl) (by kernel_rfl) rfl ?_ ?_
                    · have hzn : ((T.length : Int) - 1).toNat = T.length - 1 := by omega
                      have hj4 : (PS.getD j op0).kind = 4 := by omega
                      have hTk : (T.getD (T.length - 1) op0).kind = 1 ∨ (T.getD (T.length - 1) op0).kind = 2 := by have h_ := of_decide_eq_true c_507; rw [hzn] at h_; exact h_
                      refine xw 1 [] [(141, .slice (some ⟨wd_514.heap.size, 0, none⟩) 0 0)] [] (wd_514.alloc (.cells #[] 47)) [] trivial ?_
                      obtain ⟨w_526, hw_530, hb_527, hk_528, hz_529⟩ := new_world wd_514 #[] 47
                      rw [hw_530]
                      refine XL_nil ?_
                      refine ⟨hb_527, ?_⟩
                      refine XB_two (fuel' := 3) 5 12 #[true, true, true, true, true, true, true, true, true, true, true, true, false, false, false] #[true, true, true, true, true, false, true, true, true, true, true, true, true, false, false] _ _ rfl rfl (by kernel_rfl) (by kernel_rfl) (by kernel_rfl) rfl ?_ ?_
                      · have hr_531 := Kd.R_litB kOp (W := wd_514) (e := 47) (cs := #[]) [] hk_528 (repsOp0 [] (fun _ h => by cases h)) (Nat.le_of_ble_eq_true (by kernel_rfl))
                        obtain ⟨vs_532, hC_533, hK_534⟩ := MixK.take (m := ((T.length : Int) - 1).toNat) (MixK.below hmx2 (bt hB_518 hb_527)) (by omega)
                        refine XL_appendMixK (d := kOp) (W0 := w_15) (B := wd_514.heap.size) (c' := cq2) (m := (((T.length : Int) - 1).toNat)) op0 rfl rfl rfl 47 (.agg #[.int .i64 0, .string ByteArray.empty, .int .i64 0, .int .i64 0, .string ByteArray.empty, .int .i64 0, .slice none 0 0]) 88 Tryd.underlying37 info47 rfl (by decide) (by omega) ([]) (List.take ((T.length : Int) - 1).toNat T) vs_532 (by kernel_rfl) (MixK.nil (z := op0) (B := wd_514.heap.size) (W0 := w_15) hr_531 (Nat.le_refl _)) hC_533 (by rw [List.length_take]; omega) hK_534 (hb_527).size (by (try simp only [List.length_append, List.length_cons, List.length_nil, List.length_take]); omega) ?_
                        intro A_535 c_536 w_537 hm_538 hg_539 hl_540
                        obtain ⟨z_541, hz_542⟩ : ∃ z_, ([] ++ (List.take ((T.length : Int) - 1).toNat T)) = z_ := ⟨_, rfl⟩; rw [hz_542] at hm_538 ⊢
                        have hz_541 := congrArg List.length hz_542; simp only [List.length_append, List.length_cons, List.length_nil, List.length_take] at hz_541
                        have hB_544 : Below w_15.heap.size w_15 w_537 := (bgo (bt (bt (bt hB_504 hb_506) hb_515) hb_527) hg_539 hl_540 ((bt (bt hB_504 hb_506) hb_515)).size)
                        have hC_543 : kOp.C w_537 A_535 z_541.length z_541 := MixK.C hm_538 hB_544
                        refine XL_nil ?_
                        have hB_545 : Below wd_514.heap.size wd_514 w_537 := (bgo hb_527 hg_539 hl_540 (Nat.le_refl _))
                        refine ⟨hB_545, ?_⟩
                        refine XB_mid (fuel' := 2) 12 #[true, true, true, true, true, true, true, true, true, true, true, true, true, false, false] _ rfl (by kernel_rfl) (by kernel_rfl) rfl ?_
                        refine xw 1 [] [(146, .slice A_535 z_541.length c_536), (153, .slice (some ⟨w_537.heap.size, 0, none⟩) 2 2)] [141, 145, 147, 152] (w_537.alloc (.cells #[.int .i64 ((PS.getD j op0).kind), .string ((PS.getD j op0).text), .int .i64 ((PS.getD j op0).vk), .int .i64 ((PS.getD j op0).vn), .string ((PS.getD j op0).vt), .int .i64 ((PS.getD j op0).count), .slice B_482 ((PS.getD j op0).attrs.length) c_483, .int .i64 ((T.getD ((T.length : Int) - 1).toNat op0).kind), .string ((T.getD ((T.length : Int) - 1).toNat op0).text), .int .i64 ((T.getD ((T.length : Int) - 1).toNat op0).vk), .int .i64 ((T.getD ((T.length : Int) - 1).toNat op0).vn), .string ((T.getD ((T.length : Int) - 1).toNat op0).vt), .int .i64 ((T.getD ((T.length : Int) - 1).toNat op0).count), .slice B_522 ((T.getD ((T.length : Int) - 1).toNat op0).attrs.length) c_523] 47)) [] trivial ?_
                        obtain ⟨w_546, hw_550, hb_547, hk_548, hz_549⟩ := new_world w_537 #[.int .i64 ((PS.getD j op0).kind), .string ((PS.getD j op0).text), .int .i64 ((PS.getD j op0).vk), .int .i64 ((PS.getD j op0).vn), .string ((PS.getD j op0).vt), .int .i64 ((PS.getD j op0).count), .slice B_482 ((PS.getD j op0).attrs.length) c_483, .int .i64 ((T.getD ((T.length : Int) - 1).toNat op0).kind), .string ((T.getD ((T.length : Int) - 1).toNat op0).text), .int .i64 ((T.getD ((T.length : Int) - 1).toNat op0).vk), .int .i64 ((T.getD ((T.length : Int) - 1).toNat op0).vn), .string ((T.getD ((T.length : Int) - 1).toNat op0).vt), .int .i64 ((T.getD ((T.length : Int) - 1).toNat op0).count), .slice B_522 ((T.getD ((T.length : Int) - 1).toNat op0).attrs.length) c_523] 47
                        rw [hw_550]
                        refine XL_nil ?_
                        refine ⟨(bt hB_545 hb_547), ?_⟩
                        refine XB_act (fuel' := 1) 13 #[true, true, true, true, true, true, true, true, true, true, true, true, true, true, false] _ rfl (by kernel_rfl) rfl (by kernel_rfl) rfl ?_
                        have hR_551 := Kd.R_litB (kRaw 7) (W := w_537) (e := 47) (cs := #[.int .i64 ((PS.getD j op0).kind), .string ((PS.getD j op0).text), .int .i64 ((PS.getD j op0).vk), .int .i64 ((PS.getD j op0).vn), .string ((PS.getD j op0).vt), .int .i64 ((PS.getD j op0).count), .slice B_482 ((PS.getD j op0).attrs.length) c_483, .int .i64 ((T.getD ((T.length : Int) - 1).toNat op0).kind), .string ((T.getD ((T.length : Int) - 1).toNat op0).text), .int .i64 ((T.getD ((T.length : Int) - 1).toNat op0).vk), .int .i64 ((T.getD ((T.length : Int) - 1).toNat op0).vn), .string ((T.getD ((T.length : Int) - 1).toNat op0).vt), .int .i64 ((T.getD ((T.length : Int) - 1).toNat op0).count), .slice B_522 ((T.getD ((T.length : Int) - 1).toNat op0).attrs.length) c_523]) [[.int .i64 ((PS.getD j op0).kind), .string ((PS.getD j op0).text), .int .i64 ((PS.getD j op0).vk), .int .i64 ((PS.getD j op0).vn), .string ((PS.getD j op0).vt), .int .i64 ((PS.getD j op0).count), .slice B_482 ((PS.getD j op0).attrs.length) c_483], [.int .i64 ((T.getD ((T.length : Int) - 1).toNat op0).kind), .string ((T.getD ((T.length : Int) - 1).toNat op0).text), .int .i64 ((T.getD ((T.length : Int) - 1).toNat op0).vk), .int .i64 ((T.getD ((T.length : Int) - 1).toNat op0).vn), .string ((T.getD ((T.length : Int) - 1).toNat op0).vt), .int .i64 ((T.getD ((T.length : Int) - 1).toNat op0).count), .slice B_522 ((T.getD ((T.length : Int) - 1).toNat op0).attrs.length) c_523]] hk_548 (rawL2 _ _ _ rfl rfl rfl (by kernel_rfl) (by kernel_rfl)) (Nat.le_of_ble_eq_true (by kernel_rfl))
                        refine XL_appendMixK (d := kOp) (W0 := w_15) (B := wd_514.heap.size) (c' := 2) (m := 2) op0 rfl rfl rfl 47 (.agg #[.int .i64 0, .string ByteArray.empty, .int .i64 0, .int .i64 0, .string ByteArray.empty, .int .i64 0, .slice none 0 0]) 88 Tryd.underlying37 info47 rfl (by decide) (by omega) z_541 ([(PS.getD j op0), (T.getD ((T.length : Int) - 1).toNat op0)]) [[.int .i64 ((PS.getD j op0).kind), .string ((PS.getD j op0).text), .int .i64 ((PS.getD j op0).vk), .int .i64 ((PS.getD j op0).vn), .string ((PS.getD j op0).vt), .int .i64 ((PS.getD j op0).count), .slice B_482 ((PS.getD j op0).attrs.length) c_483], [.int .i64 ((T.getD ((T.length : Int) - 1).toNat op0).kind), .string ((T.getD ((T.length : Int) - 1).toNat op0).text), .int .i64 ((T.getD ((T.length : Int) - 1).toNat op0).vk), .int .i64 ((T.getD ((T.length : Int) - 1).toNat op0).vn), .string ((T.getD ((T.length : Int) - 1).toNat op0).vt), .int .i64 ((T.getD ((T.length : Int) - 1).toNat op0).count), .slice B_522 ((T.getD ((T.length : Int) - 1).toNat op0).attrs.length) c_523]] (by kernel_rfl) (MixK.below hm_538 hb_547) (Kd.R_C hR_551) rfl (fun i_ hi_ => by have h_ : i_ = 0 ∨ i_ = 1 := (by omega); rcases h_ with h_ | h_ <;> subst h_; (· exact (kOp_K_of (x := (PS.getD j op0)) hl_484 hC_485)); (· exact (kOp_K_of (x := (T.getD ((T.length : Int) - 1).toNat op0)) hl_524 hC_525))) ((bt hB_545 hb_547)).size (by (try simp only [List.length_append, List.length_cons, List.length_nil, List.length_take]); omega) ?_
                        intro A_552 c_553 w_554 hm_555 hg_556 hl_557
                        have hk_558 := Blk.off hk_548 hg_556 (fun x_ e_ => Nat.ne_of_lt (Nat.lt_of_lt_of_le (MixK.lt hm_538 x_ e_) (Nat.le_refl _)))
                        obtain ⟨z_559, hz_560⟩ : ∃ z_, (z_541 ++ [(PS.getD j op0), (T.getD ((T.length : Int) - 1).toNat op0)]) = z_ := ⟨_, rfl⟩; rw [hz_560] at hm_555 ⊢
                        have hz_559 := congrArg List.length hz_560; simp only [List.length_append, List.length_cons, List.length_nil, List.length_take] at hz_559
                        have hB_562 : Below w_15.heap.size w_15 w_554 := (bgo (bt hB_544 hb_547) hg_556 hl_557 ((bt (bt hB_504 hb_506) hb_515)).size)
                        have hC_561 : kOp.C w_554 A_552 z_559.length z_559 := MixK.C hm_555 hB_562
                        refine XL_nil ?_
                        refine XB_pure (fuel' := 0) [14] [] [.slice A_552 z_559.length c_553] #[true, true, true, true, true, true, true, true, true, true, true, true, true, true, true] [(1, .slice D cs.length dc), (7, .slice A_13 ((B.can xs).length) c_14), (8, .slice Q PS.length cq), (15, .slice A_552 z_559.length c_553), (106, .slice Q PS.length cq), (107, .int .i64 (PS.length : Int)), (108, .int .i64 (j : Int))] (fun w_ => []) (fun _ _ _ _ h => h) (fun w_ => by kernel_rfl) rfl (fun w_ => trivial) ?_
                        refine XB_done (by kernel_rfl) ?_
                        refine X_exit ?_
                        refine X_region ?_
                        refine xr 2 [(159, .eq (.int .i64 ((j : Int) + 1)))] [(108, .int .i64 ((j : Int) + 1))] [] [Value.int .i64 (IntKind.i64.wrap ((j : Int) + 1)) = Value.int .i64 ((j : Int) + 1)] ⟨wr_i64 (by omega) (by omega), trivial⟩ ?_
                        refine XL_nil ?_
                        have hB_563 : Below wl.heap.size wl wd_514 := (bt (bt (bg (bt HB2 hb_487) hg_492 (HB2).size) hb_506) hb_515)
                        have hB_564 : Below wl.heap.size wl w_554 := (bgo (bt (bgo (bt hB_563 hb_527) hg_539 hl_540 (hB_563).size) hb_547) hg_556 hl_557 (hB_563).size)
                        refine ⟨(j + 1, z_559, A_552, c_553), by kernel_rfl, ?_, ?_⟩
                        · refine ⟨by omega, (MixK.low hm_555 (hB_563).size), ?_, by omega, hB_564⟩
                          rw [take_snocD op0 PS j (by omega), ← hz_560, ← hz_542]
                          have h_ := B.alk_turn halk hpj hfj hj4 (by omega) hTk; rw [← hzn] at h_; exact h_
                        · (try dsimp only); omega
                      · refine xw 1 [] [(153, .slice (some ⟨w_526.heap.size, 0, none⟩) 2 2)] [147, 152] (w_526.alloc (.cells #[.int .i64 ((PS.getD j op0).kind), .string ((PS.getD j op0).text), .int .i64 ((PS.getD j op0).vk), .int .i64 ((PS.getD j op0).vn), .string ((PS.getD j op0).vt), .int .i64 ((PS.getD j op0).count), .slice B_482 ((PS.getD j op0).attrs.length) c_483, .int .i64 ((T.getD ((T.length : Int) - 1).toNat op0).kind), .string ((T.getD ((T.length : Int) - 1).toNat op0).text), .int .i64 ((T.getD ((T.length : Int) - 1).toNat op0).vk), .int .i64 ((T.getD ((T.length : Int) - 1).toNat op0).vn), .string ((T.getD ((T.length : Int) - 1).toNat op0).vt), .int .i64 ((T.getD ((T.length : Int) - 1).toNat op0).count), .slice B_522 ((T.getD ((T.length : Int) - 1).toNat op0).attrs.length) c_523] 47)) [] trivial ?_
                        obtain ⟨w_565, hw_569, hb_566, hk_567, hz_568⟩ := new_world w_526 #[.int .i64 ((PS.getD j op0).kind), .string ((PS.getD j op0).text), .int .i64 ((PS.getD j op0).vk), .int .i64 ((PS.getD j op0).vn), .string ((PS.getD j op0).vt), .int .i64 ((PS.getD j op0).count), .slice B_482 ((PS.getD j op0).attrs.length) c_483, .int .i64 ((T.getD ((T.length : Int) - 1).toNat op0).kind), .string ((T.getD ((T.length : Int) - 1).toNat op0).text), .int .i64 ((T.getD ((T.length : Int) - 1).toNat op0).vk), .int .i64 ((T.getD ((T.length : Int) - 1).toNat op0).vn), .string ((T.getD ((T.length : Int) - 1).toNat op0).vt), .int .i64 ((T.getD ((T.length : Int) - 1).toNat op0).count), .slice B_522 ((T.getD ((T.length : Int) - 1).toNat op0).attrs.length) c_523] 47
                        rw [hw_569]
                        refine XL_nil ?_
                        refine ⟨(bt hb_527 hb_566), ?_⟩
                        refine XB_mid (fuel' := 2) 5 #[true, true, true, true, true, true, true, true, true, true, true, true, true, false, false] _ rfl (by kernel_rfl) (by kernel_rfl) rfl ?_
                        have hr_570 := Kd.R_litB kOp (W := wd_514) (e := 47) (cs := #[]) [] hk_528 (repsOp0 [] (fun _ h => by cases h)) (Nat.le_of_ble_eq_true (by kernel_rfl))
                        obtain ⟨vs_571, hC_572, hK_573⟩ := MixK.take (m := ((T.length : Int) - 1).toNat) (MixK.below hmx2 (bt (bt hB_518 hb_527) hb_566)) (by omega)
                        refine XL_appendMixK (d := kOp) (W0 := w_15) (B := wd_514.heap.size) (c' := cq2) (m := (((T.length : Int) - 1).toNat)) op0 rfl rfl rfl 47 (.agg #[.int .i64 0, .string ByteArray.empty, .int .i64 0, .int .i64 0, .string ByteArray.empty, .int .i64 0, .slice none 0 0]) 88 Tryd.underlying37 info47 rfl (by decide) (by omega) ([]) (List.take ((T.length : Int) - 1).toNat T) vs_571 (by kernel_rfl) (MixK.nil (z := op0) (B := wd_514.heap.size) (W0 := w_15) (Kd.R_below hr_570 hb_566) (Nat.le_refl _)) hC_572 (by rw [List.length_take]; omega) hK_573 ((bt hb_527 hb_566)).size (by (try simp only [List.length_append, List.length_cons, List.length_nil, List.length_take]); omega) ?_
                        intro A_574 c_575 w_576 hm_577 hg_578 hl_579
                        have hk_580 := Blk.off hk_567 hg_578 (fun x_ e_ => Nat.ne_of_lt (Nat.lt_of_lt_of_le (MixK.lt (MixK.nil (z := op0) (B := wd_514.heap.size) (W0 := w_15) hr_570 (Nat.le_refl _)) x_ e_) (Nat.le_refl _)))
                        obtain ⟨z_581, hz_582⟩ : ∃ z_, ([] ++ (List.take ((T.length : Int) - 1).toNat T)) = z_ := ⟨_, rfl⟩; rw [hz_582] at hm_577 ⊢
                        have hz_581 := congrArg List.length hz_582; simp only [List.length_append, List.length_cons, List.length_nil, List.length_take] at hz_581
                        have hB_584 : Below w_15.heap.size w_15 w_576 := (bgo (bt (bt (bt (bt hB_504 hb_506) hb_515) hb_527) hb_566) hg_578 hl_579 ((bt (bt hB_504 hb_506) hb_515)).size)
                        have hC_583 : kOp.C w_576 A_574 z_581.length z_581 := MixK.C hm_577 hB_584
                        refine XL_nil ?_
                        have hB_585 : Below wd_514.heap.size wd_514 w_576 := (bgo (bt hb_527 hb_566) hg_578 hl_579 (Nat.le_refl _))
                        refine ⟨hB_585, ?_⟩
                        refine XB_act (fuel' := 1) 13 #[true, true, true, true, true, true, true, true, true, true, true, true, true, true, false] _ rfl (by kernel_rfl) rfl (by kernel_rfl) rfl ?_
                        have hR_586 := Kd.R_litB (kRaw 7) (W := w_526) (e := 47) (cs := #[.int .i64 ((PS.getD j op0).kind), .string ((PS.getD j op0).text), .int .i64 ((PS.getD j op0).vk), .int .i64 ((PS.getD j op0).vn), .string ((PS.getD j op0).vt), .int .i64 ((PS.getD j op0).count), .slice B_482 ((PS.getD j op0).attrs.length) c_483, .int .i64 ((T.getD ((T.length : Int) - 1).toNat op0).kind), .string ((T.getD ((T.length : Int) - 1).toNat op0).text), .int .i64 ((T.getD ((T.length : Int) - 1).toNat op0).vk), .int .i64 ((T.getD ((T.length : Int) - 1).toNat op0).vn), .string ((T.getD ((T.length : Int) - 1).toNat op0).vt), .int .i64 ((T.getD ((T.length : Int) - 1).toNat op0).count), .slice B_522 ((T.getD ((T.length : Int) - 1).toNat op0).attrs.length) c_523]) [[.int .i64 ((PS.getD j op0).kind), .string ((PS.getD j op0).text), .int .i64 ((PS.getD j op0).vk), .int .i64 ((PS.getD j op0).vn), .string ((PS.getD j op0).vt), .int .i64 ((PS.getD j op0).count), .slice B_482 ((PS.getD j op0).attrs.length) c_483], [.int .i64 ((T.getD ((T.length : Int) - 1).toNat op0).kind), .string ((T.getD ((T.length : Int) - 1).toNat op0).text), .int .i64 ((T.getD ((T.length : Int) - 1).toNat op0).vk), .int .i64 ((T.getD ((T.length : Int) - 1).toNat op0).vn), .string ((T.getD ((T.length : Int) - 1).toNat op0).vt), .int .i64 ((T.getD ((T.length : Int) - 1).toNat op0).count), .slice B_522 ((T.getD ((T.length : Int) - 1).toNat op0).attrs.length) c_523]] hk_580 (rawL2 _ _ _ rfl rfl rfl (by kernel_rfl) (by kernel_rfl)) (Nat.le_of_ble_eq_true (by kernel_rfl))
                        refine XL_appendMixK (d := kOp) (W0 := w_15) (B := wd_514.heap.size) (c' := 2) (m := 2) op0 rfl rfl rfl 47 (.agg #[.int .i64 0, .string ByteArray.empty, .int .i64 0, .int .i64 0, .string ByteArray.empty, .int .i64 0, .slice none 0 0]) 88 Tryd.underlying37 info47 rfl (by decide) (by omega) z_581 ([(PS.getD j op0), (T.getD ((T.length : Int) - 1).toNat op0)]) [[.int .i64 ((PS.getD j op0).kind), .string ((PS.getD j op0).text), .int .i64 ((PS.getD j op0).vk), .int .i64 ((PS.getD j op0).vn), .string ((PS.getD j op0).vt), .int .i64 ((PS.getD j op0).count), .slice B_482 ((PS.getD j op0).attrs.length) c_483], [.int .i64 ((T.getD ((T.length : Int) - 1).toNat op0).kind), .string ((T.getD ((T.length : Int) - 1).toNat op0).text), .int .i64 ((T.getD ((T.length : Int) - 1).toNat op0).vk), .int .i64 ((T.getD ((T.length : Int) - 1).toNat op0).vn), .string ((T.getD ((T.length : Int) - 1).toNat op0).vt), .int .i64 ((T.getD ((T.length : Int) - 1).toNat op0).count), .slice B_522 ((T.getD ((T.length : Int) - 1).toNat op0).attrs.length) c_523]] (by kernel_rfl) hm_577 (Kd.R_C hR_586) rfl (fun i_ hi_ => by have h_ : i_ = 0 ∨ i_ = 1 := (by omega); rcases h_ with h_ | h_ <;> subst h_; (· exact (kOp_K_of (x := (PS.getD j op0)) hl_484 hC_485)); (· exact (kOp_K_of (x := (T.getD ((T.length : Int) - 1).toNat op0)) hl_524 hC_525))) (hB_585).size (by (try simp only [List.length_append, List.length_cons, List.length_nil, List.length_take]); omega) ?_
                        intro A_587 c_588 w_589 hm_590 hg_591 hl_592
                        obtain ⟨z_593, hz_594⟩ : ∃ z_, (z_581 ++ [(PS.getD j op0), (T.getD ((T.length : Int) - 1).toNat op0)]) = z_ := ⟨_, rfl⟩; rw [hz_594] at hm_590 ⊢
                        have hz_593 := congrArg List.length hz_594; simp only [List.length_append, List.length_cons, List.length_nil, List.length_take] at hz_593
                        have hB_596 : Below w_15.heap.size w_15 w_589 := (bgo hB_584 hg_591 hl_592 ((bt (bt hB_504 hb_506) hb_515)).size)
                        have hC_595 : kOp.C w_589 A_587 z_593.length z_593 := MixK.C hm_590 hB_596
                        refine XL_nil ?_
                        refine XB_pure (fuel' := 0) [14] [] [.slice A_587 z_593.length c_588] #[true, true, true, true, true, true, true, true, true, true, true, true, true, true, true] [(1, .slice D cs.length dc), (7, .slice A_13 ((B.can xs).length) c_14), (8, .slice Q PS.length cq), (15, .slice A_587 z_593.length c_588), (106, .slice Q PS.length cq), (107, .int .i64 (PS.length : Int)), (108, .int .i64 (j : Int))] (fun w_ => []) (fun _ _ _ _ h => h) (fun w_ => by kernel_rfl) rfl (fun w_ => trivial) ?_
                        refine XB_done (by kernel_rfl) ?_
                        refine X_exit ?_
                        refine X_region ?_
                        refine xr 2 [(159, .eq (.int .i64 ((j : Int) + 1)))] [(108, .int .i64 ((j : Int) + 1))] [] [Value.int .i64 (IntKind.i64.wrap ((j : Int) + 1)) = Value.int .i64 ((j : Int) + 1)] ⟨wr_i64 (by omega) (by omega), trivial⟩ ?_
                        refine XL_nil ?_
                        have hB_597 : Below wl.heap.size wl wd_514 := (bt (bt (bg (bt HB2 hb_487) hg_492 (HB2).size) hb_506) hb_515)
                        have hB_598 : Below wl.heap.size wl w_589 := (bgo (bgo (bt (bt hB_597 hb_527) hb_566) hg_578 hl_579 (hB_597).size) hg_591 hl_592 (hB_597).size)
                        refine ⟨(j + 1, z_593, A_587, c_588), by kernel_rfl, ?_, ?_⟩
                        · refine ⟨by omega, (MixK.low hm_590 (hB_597).size), ?_, by omega, hB_598⟩
                          rw [take_snocD op0 PS j (by omega), ← hz_594, ← hz_582]
                          have h_ := B.alk_turn halk hpj hfj hj4 (by omega) hTk; rw [← hzn] at h_; exact h_
                        · (try dsimp only); omega
                    · refine xw 1 [] [(153, .slice (some ⟨wd_514.heap.size, 0, none⟩) 2 2)] [147, 152] (wd_514.alloc (.cells #[.int .i64 ((PS.getD j op0).kind), .string ((PS.getD j op0).text), .int .i64 ((PS.getD j op0).vk), .int .i64 ((PS.getD j op0).vn), .string ((PS.getD j op0).vt), .int .i64 ((PS.getD j op0).count), .slice B_482 ((PS.getD j op0).attrs.length) c_483, .int .i64 ((T.getD ((T.length : Int) - 1).toNat op0).kind), .string ((T.getD ((T.length : Int) - 1).toNat op0).text), .int .i64 ((T.getD ((T.length : Int) - 1).toNat op0).vk), .int .i64 ((T.getD ((T.length : Int) - 1).toNat op0).vn), .string ((T.getD ((T.length : Int) - 1).toNat op0).vt), .int .i64 ((T.getD ((T.length : Int) - 1).toNat op0).count), .slice B_522 ((T.getD ((T.length : Int) - 1).toNat op0).attrs.length) c_523] 47)) [] trivial ?_
                      obtain ⟨w_599, hw_603, hb_600, hk_601, hz_602⟩ := new_world wd_514 #[.int .i64 ((PS.getD j op0).kind), .string ((PS.getD j op0).text), .int .i64 ((PS.getD j op0).vk), .int .i64 ((PS.getD j op0).vn), .string ((PS.getD j op0).vt), .int .i64 ((PS.getD j op0).count), .slice B_482 ((PS.getD j op0).attrs.length) c_483, .int .i64 ((T.getD ((T.length : Int) - 1).toNat op0).kind), .string ((T.getD ((T.length : Int) - 1).toNat op0).text), .int .i64 ((T.getD ((T.length : Int) - 1).toNat op0).vk), .int .i64 ((T.getD ((T.length : Int) - 1).toNat op0).vn), .string ((T.getD ((T.length : Int) - 1).toNat op0).vt), .int .i64 ((T.getD ((T.length : Int) - 1).toNat op0).count), .slice B_522 ((T.getD ((T.length : Int) - 1).toNat op0).attrs.length) c_523] 47
                      rw [hw_603]
                      refine XL_nil ?_
                      refine ⟨hb_600, ?_⟩
                      refine XB_mid (fuel' := 3) 0 #[true, true, true, true, true, false, true, true, true, true, true, true, true, false, false] _ rfl (by kernel_rfl) (by kernel_rfl) rfl ?_
                      have hzn : ((T.length : Int) - 1).toNat = T.length - 1 := by omega
                      have hj4 : (PS.getD j op0).kind = 4 := by omega
                      have hTk : (T.getD (T.length - 1) op0).kind = 1 ∨ (T.getD (T.length - 1) op0).kind = 2 := by have h_ := of_decide_eq_true c_507; rw [hzn] at h_; exact h_
                      refine xw 1 [] [(141, .slice (some ⟨w_599.heap.size, 0, none⟩) 0 0)] [] (w_599.alloc (.cells #[] 47)) [] trivial ?_
                      obtain ⟨w_604, hw_608, hb_605, hk_606, hz_607⟩ := new_world w_599 #[] 47
                      rw [hw_608]
                      refine XL_nil ?_
                      refine ⟨(bt hb_600 hb_605), ?_⟩
                      refine XB_mid (fuel' := 2) 5 #[true, true, true, true, true, true, true, true, true, true, true, true, true, false, false] _ rfl (by kernel_rfl) (by kernel_rfl) rfl ?_
                      have hr_609 := Kd.R_litB kOp (W := w_599) (e := 47) (cs := #[]) [] hk_606 (repsOp0 [] (fun _ h => by cases h)) (Nat.le_of_ble_eq_true (by kernel_rfl))
                      obtain ⟨vs_610, hC_611, hK_612⟩ := MixK.take (m := ((T.length : Int) - 1).toNat) (MixK.below hmx2 (bt (bt hB_518 hb_600) hb_605)) (by omega)
                      refine XL_appendMixK (d := kOp) (W0 := w_15) (B := w_599.heap.size) (c' := cq2) (m := (((T.length : Int) - 1).toNat)) op0 rfl rfl rfl 47 (.agg #[.int .i64 0, .string ByteArray.empty, .int .i64 0, .int .i64 0, .string ByteArray.empty, .int .i64 0, .slice none 0 0]) 88 Tryd.underlying37 info47 rfl (by decide) (by omega) ([]) (List.take ((T.length : Int) - 1).toNat T) vs_610 (by kernel_rfl) (MixK.nil (z := op0) (B := w_599.heap.size) (W0 := w_15) hr_609 (Nat.le_refl _)) hC_611 (by rw [List.length_take]; omega) hK_612 (hb_605).size (by (try simp only [List.length_append, List.length_cons, List.length_nil, List.length_take]); omega) ?_
                      intro A_613 c_614 w_615 hm_616 hg_617 hl_618
                      obtain ⟨z_619, hz_620⟩ : ∃ z_, ([] ++ (List.take ((T.length : Int) - 1).toNat T)) = z_ := ⟨_, rfl⟩; rw [hz_620] at hm_616 ⊢
                      have hz_619 := congrArg List.length hz_620; simp only [List.length_append, List.length_cons, List.length_nil, List.length_take] at hz_619
                      have hB_622 : Below w_15.heap.size w_15 w_599 := (bt (bt (bt hB_504 hb_506) hb_515) hb_600)
                      have hB_623 : Below w_15.heap.size w_15 w_615 := (bgo (bt (bt (bt (bt hB_504 hb_506) hb_515) hb_600) hb_605) hg_617 hl_618 (hB_622).size)
                      have hC_621 : kOp.C w_615 A_613 z_619.length z_619 := MixK.C hm_616 hB_623
                      refine XL_nil ?_
                      have hB_624 : Below wd_514.heap.size wd_514 w_615 := (bgo (bt hb_600 hb_605) hg_617 hl_618 (hb_600).size)
                      refine ⟨hB_624, ?_⟩
                      refine XB_act (fuel' := 1) 13 #[true, true, true, true, true, true, true, true, true, true, true, true, true, true, false] _ rfl (by kernel_rfl) rfl (by kernel_rfl) rfl ?_
                      have hR_625 := Kd.R_litB (kRaw 7) (W := wd_514) (e := 47) (cs := #[.int .i64 ((PS.getD j op0).kind), .string ((PS.getD j op0).text), .int .i64 ((PS.getD j op0).vk), .int .i64 ((PS.getD j op0).vn), .string ((PS.getD j op0).vt), .int .i64 ((PS.getD j op0).count), .slice B_482 ((PS.getD j op0).attrs.length) c_483, .int .i64 ((T.getD ((T.length : Int) - 1).toNat op0).kind), .string ((T.getD ((T.length : Int) - 1).toNat op0).text), .int .i64 ((T.getD ((T.length : Int) - 1).toNat op0).vk), .int .i64 ((T.getD ((T.length : Int) - 1).toNat op0).vn), .string ((T.getD ((T.length : Int) - 1).toNat op0).vt), .int .i64 ((T.getD ((T.length : Int) - 1).toNat op0).count), .slice B_522 ((T.getD ((T.length : Int) - 1).toNat op0).attrs.length) c_523]) [[.int .i64 ((PS.getD j op0).kind), .string ((PS.getD j op0).text), .int .i64 ((PS.getD j op0).vk), .int .i64 ((PS.getD j op0).vn), .string ((PS.getD j op0).vt), .int .i64 ((PS.getD j op0).count), .slice B_482 ((PS.getD j op0).attrs.length) c_483], [.int .i64 ((T.getD ((T.length : Int) - 1).toNat op0).kind), .string ((T.getD ((T.length : Int) - 1).toNat op0).text), .int .i64 ((T.getD ((T.length : Int) - 1).toNat op0).vk), .int .i64 ((T.getD ((T.length : Int) - 1).toNat op0).vn), .string ((T.getD ((T.length : Int) - 1).toNat op0).vt), .int .i64 ((T.getD ((T.length : Int) - 1).toNat op0).count), .slice B_522 ((T.getD ((T.length : Int) - 1).toNat op0).attrs.length) c_523]] hk_601 (rawL2 _ _ _ rfl rfl rfl (by kernel_rfl) (by kernel_rfl)) (Nat.le_of_ble_eq_true (by kernel_rfl))
                      have hB_626 : Below w_599.heap.size w_599 w_615 := (bgo hb_605 hg_617 hl_618 (Nat.le_refl _))
                      refine XL_appendMixK (d := kOp) (W0 := w_15) (B := w_599.heap.size) (c' := 2) (m := 2) op0 rfl rfl rfl 47 (.agg #[.int .i64 0, .string ByteArray.empty, .int .i64 0, .int .i64 0, .string ByteArray.empty, .int .i64 0, .slice none 0 0]) 88 Tryd.underlying37 info47 rfl (by decide) (by omega) z_619 ([(PS.getD j op0), (T.getD ((T.length : Int) - 1).toNat op0)]) [[.int .i64 ((PS.getD j op0).kind), .string ((PS.getD j op0).text), .int .i64 ((PS.getD j op0).vk), .int .i64 ((PS.getD j op0).vn), .string ((PS.getD j op0).vt), .int .i64 ((PS.getD j op0).count), .slice B_482 ((PS.getD j op0).attrs.length) c_483], [.int .i64 ((T.getD ((T.length : Int) - 1).toNat op0).kind), .string ((T.getD ((T.length : Int) - 1).toNat op0).text), .int .i64 ((T.getD ((T.length : Int) - 1).toNat op0).vk), .int .i64 ((T.getD ((T.length : Int) - 1).toNat op0).vn), .string ((T.getD ((T.length : Int) - 1).toNat op0).vt), .int .i64 ((T.getD ((T.length : Int) - 1).toNat op0).count), .slice B_522 ((T.getD ((T.length : Int) - 1).toNat op0).attrs.length) c_523]] (by kernel_rfl) hm_616 (Kd.C_below (Kd.R_C hR_625) hB_626) rfl (fun i_ hi_ => by have h_ : i_ = 0 ∨ i_ = 1 := (by omega); rcases h_ with h_ | h_ <;> subst h_; (· exact (kOp_K_of (x := (PS.getD j op0)) hl_484 hC_485)); (· exact (kOp_K_of (x := (T.getD ((T.length : Int) - 1).toNat op0)) hl_524 hC_525))) (hB_626).size (by (try simp only [List.length_append, List.length_cons, List.length_nil, List.length_take]); omega) ?_
                      intro A_627 c_628 w_629 hm_630 hg_631 hl_632
                      obtain ⟨z_633, hz_634⟩ : ∃ z_, (z_619 ++ [(PS.getD j op0), (T.getD ((T.length : Int) - 1).toNat op0)]) = z_ := ⟨_, rfl⟩; rw [hz_634] at hm_630 ⊢
                      have hz_633 := congrArg List.length hz_634; simp only [List.length_append, List.length_cons, List.length_nil, List.length_take] at hz_633
                      have hC_635 : kOp.C w_629 A_627 z_633.length z_633 := MixK.C hm_630 (bgo hB_623 hg_631 hl_632 (hB_622).size)
                      refine XL_nil ?_
                      refine XB_pure (fuel' := 0) [14] [] [.slice A_627 z_633.length c_628] #[true, true, true, true, true, true, true, true, true, true, true, true, true, true, true] [(1, .slice D cs.length dc), (7, .slice A_13 ((B.can xs).length) c_14), (8, .slice Q PS.length cq), (15, .slice A_627 z_633.length c_628), (106, .slice Q PS.length cq), (107, .int .i64 (PS.length : Int)), (108, .int .i64 (j : Int))] (fun w_ => []) (fun _ _ _ _ h => h) (fun w_ => by kernel_rfl) rfl (fun w_ => trivial) ?_
                      refine XB_done (by kernel_rfl) ?_
                      refine X_exit ?_
                      refine X_region ?_
                      refine xr 2 [(159, .eq (.int .i64 ((j : Int) + 1)))] [(108, .int .i64 ((j : Int) + 1))] [] [Value.int .i64 (IntKind.i64.wrap ((j : Int) + 1)) = Value.int .i64 ((j : Int) + 1)] ⟨wr_i64 (by omega) (by omega), trivial⟩ ?_
                      refine XL_nil ?_
                      have hB_636 : Below wl.heap.size wl w_599 := (bt (bt (bt (bg (bt HB2 hb_487) hg_492 (HB2).size) hb_506) hb_515) hb_600)
                      have hB_637 : Below wl.heap.size wl w_629 := (bgo (bgo (bt hB_636 hb_605) hg_617 hl_618 (hB_636).size) hg_631 hl_632 (hB_636).size)
                      refine ⟨(j + 1, z_633, A_627, c_628), by kernel_rfl, ?_, ?_⟩
                      · refine ⟨by omega, (MixK.low hm_630 (hB_636).size), ?_, by omega, hB_637⟩
                        rw [take_snocD op0 PS j (by omega), ← hz_634, ← hz_620]
                        have h_ := B.alk_turn halk hpj hfj hj4 (by omega) hTk; rw [← hzn] at h_; exact h_
                      · (try dsimp only); omega
                  · refine xr 2 [(139, .eq (.bool false))] [(140, .bool false)] [130, 138] [Value.bool (Int.tmod (rd cs (q : Int)) 2 == 0) = Value.bool false] ⟨congrArg Value.bool (beq_eq_false_iff_ne.2 (c_513)), trivial⟩ ?_
                    refine XL_nil ?_
                    refine X_cond false rfl ?_
                    refine X_skip ?_
                    refine X_region ?_
                    refine xw 3 [(156, .load (.agg #[.int .i64 ((PS.getD j op0).kind), .string ((PS.getD j op0).text), .int .i64 ((PS.getD j op0).vk), .int .i64 ((PS.getD j op0).vn), .string ((PS.getD j op0).vt), .int .i64 ((PS.getD j op0).count), .slice B_482 ((PS.getD j op0).attrs.length) c_483]))] [(155, .slice Q2 T.length cq2), (157, .slice (some ⟨w_505.heap.size, 0, none⟩) 1 1)] [15, 17, 18, 140] (w_505.alloc (.cells #[.int .i64 ((PS.getD j op0).kind), .string ((PS.getD j op0).text), .int .i64 ((PS.getD j op0).vk), .int .i64 ((PS.getD j op0).vn), .string ((PS.getD j op0).vt), .int .i64 ((PS.getD j op0).count), .slice B_482 ((PS.getD j op0).attrs.length) c_483] 47)) [LoadsAs Tryd.prog 47 (⟨wl2.heap.size, 0, none⟩) (.agg #[.int .i64 ((PS.getD j op0).kind), .string ((PS.getD j op0).text), .int .i64 ((PS.getD j op0).vk), .int .i64 ((PS.getD j op0).vn), .string ((PS.getD j op0).vt), .int .i64 ((PS.getD j op0).count), .slice B_482 ((PS.getD j op0).attrs.length) c_483]) w_505] ⟨loadsB rfl rfl (Blk.below hk_493 hb_506) 0 ⟨by kernel_rfl, by kernel_rfl⟩, trivial⟩ ?_
                    obtain ⟨w_638, hw_642, hb_639, hk_640, hz_641⟩ := new_world w_505 #[.int .i64 ((PS.getD j op0).kind), .string ((PS.getD j op0).text), .int .i64 ((PS.getD j op0).vk), .int .i64 ((PS.getD j op0).vn), .string ((PS.getD j op0).vt), .int .i64 ((PS.getD j op0).count), .slice B_482 ((PS.getD j op0).attrs.length) c_483] 47
                    rw [hw_642]
                    have hB_643 : Below wl2.heap.size wl2 w_638 := (bt (bt (bg hb_487 hg_492 (Nat.le_refl _)) hb_506) hb_639)
                    have hR_644 := Kd.R_litB (kRaw 7) (W := w_505) (e := 47) (cs := #[.int .i64 ((PS.getD j op0).kind), .string ((PS.getD j op0).text), .int .i64 ((PS.getD j op0).vk), .int .i64 ((PS.getD j op0).vn), .string ((PS.getD j op0).vt), .int .i64 ((PS.getD j op0).count), .slice B_482 ((PS.getD j op0).attrs.length) c_483]) [[.int .i64 ((PS.getD j op0).kind), .string ((PS.getD j op0).text), .int .i64 ((PS.getD j op0).vk), .int .i64 ((PS.getD j op0).vn), .string ((PS.getD j op0).vt), .int .i64 ((PS.getD j op0).count), .slice B_482 ((PS.getD j op0).attrs.length) c_483]] hk_640 (rawL1 _ rfl (by kernel_rfl)) (Nat.le_of_ble_eq_true (by kernel_rfl))
                    have hB_651 : Below wl.heap.size wl w_638 := (bt (bt (bg (bt HB2 hb_487) hg_492 (HB2).size) hb_506) hb_639)
                    refine XL_appendMixK (d := kOp) (W0 := w_15) (B := wl.heap.size) (c' := 1) (m := 1) op0 rfl rfl rfl 47 (.agg #[.int .i64 0, .string ByteArray.empty, .int .i64 0, .int .i64 0, .string ByteArray.empty, .int .i64 0, .slice none 0 0]) 88 Tryd.underlying37 info47 rfl (by decide) (by omega) T ([(PS.getD j op0)]) [[.int .i64 ((PS.getD j op0).kind), .string ((PS.getD j op0).text), .int .i64 ((PS.getD j op0).vk), .int .i64 ((PS.getD j op0).vn), .string ((PS.getD j op0).vt), .int .i64 ((PS.getD j op0).count), .slice B_482 ((PS.getD j op0).attrs.length) c_483]] (by kernel_rfl) (MixK.below hmx2 hB_643) (Kd.R_C hR_644) rfl (fun i_ hi_ => by have h_ : i_ = 0 := (by omega); subst h_; exact (kOp_K_of (x := (PS.getD j op0)) hl_484 hC_485)) (hB_651).size (by (try simp only [List.length_append, List.length_cons, List.length_nil, List.length_take]); omega) ?_
                    intro A_645 c_646 w_647 hm_648 hg_649 hl_650
                    have hB_652 : Below wl2.heap.size wl2 w_505 := (bt (bg hb_487 hg_492 (Nat.le_refl _)) hb_506)
                    have hk_653 := Blk.off hk_640 hg_649 (fun x_ e_ => Nat.ne_of_lt (Nat.lt_of_lt_of_le (MixK.lt hmx2 x_ e_) (hB_652).size))
                    obtain ⟨z_654, hz_655⟩ : ∃ z_, (T ++ [(PS.getD j op0)]) = z_ := ⟨_, rfl⟩; rw [hz_655] at hm_648 ⊢
                    have hz_654 := congrArg List.length hz_655; simp only [List.length_append, List.length_cons, List.length_nil, List.length_take] at hz_654
                    have hB_657 : Below w_15.heap.size w_15 w_647 := (bgo (bt (bt hB_504 hb_506) hb_639) hg_649 hl_650 (HB).size)
                    have hC_656 : kOp.C w_647 A_645 z_654.length z_654 := MixK.C hm_648 hB_657
                    refine xr0 1 [(15, .slice A_645 z_654.length c_646)] [155, 157, 158] ?_
                    refine XL_nil ?_
                    refine X_region ?_
                    refine xr 2 [(159, .eq (.int .i64 ((j : Int) + 1)))] [(108, .int .i64 ((j : Int) + 1))] [] [Value.int .i64 (IntKind.i64.wrap ((j : Int) + 1)) = Value.int .i64 ((j : Int) + 1)] ⟨wr_i64 (by omega) (by omega), trivial⟩ ?_
                    refine XL_nil ?_
                    have hB_658 : Below wl.heap.size wl w_647 := (bgo hB_651 hg_649 hl_650 (Nat.le_refl _))
                    refine ⟨(j + 1, z_654, A_645, c_646), by kernel_rfl, ?_, ?_⟩
                    · refine ⟨by omega, hm_648, ?_, by omega, hB_658⟩
                      rw [take_snocD op0 PS j (by omega), ← hz_655]
                      exact B.alk_add halk hpj hfj
                    · (try dsimp only); omega
                · rw [show (decide (insO (T.getD ((T.length : Int) - 1).toNat op0)) : Bool) = false from by simpa using c_507]
                  refine xr0 10 [(140, .bool false)] [16, 130] ?_
                  refine XL_nil ?_
                  refine X_cond false rfl ?_
                  refine X_skip ?_
                  refine X_region ?_
                  refine xwe 3 [(156, .load (.agg #[.int .i64 ((PS.getD j op0).kind), .string ((PS.getD j op0).text), .int .i64 ((PS.getD j op0).vk), .int .i64 ((PS.getD j op0).vn), .string ((PS.getD j op0).vt), .int .i64 ((PS.getD j op0).count), .slice B_482 ((PS.getD j op0).attrs.length) c_483]))] [(1, .slice D cs.length dc), (7, .slice A_13 ((B.can xs).length) c_14), (8, .slice Q PS.length cq), (106, .slice Q PS.length cq), (107, .int .i64 (PS.length : Int)), (108, nv j), (155, .slice Q2 T.length cq2), (157, .slice (some ⟨w_505.heap.size, 0, none⟩) 1 1)] (w_505.alloc (.cells #[.int .i64 ((PS.getD j op0).kind), .string ((PS.getD j op0).text), .int .i64 ((PS.getD j op0).vk), .int .i64 ((PS.getD j op0).vn), .string ((PS.getD j op0).vt), .int .i64 ((PS.getD j op0).count), .slice B_482 ((PS.getD j op0).attrs.length) c_483] 47)) [LoadsAs Tryd.prog 47 (⟨wl2.heap.size, 0, none⟩) (.agg #[.int .i64 ((PS.getD j op0).kind), .string ((PS.getD j op0).text), .int .i64 ((PS.getD j op0).vk), .int .i64 ((PS.getD j op0).vn), .string ((PS.getD j op0).vt), .int .i64 ((PS.getD j op0).count), .slice B_482 ((PS.getD j op0).attrs.length) c_483]) w_505] ⟨loadsB rfl rfl (Blk.below hk_493 hb_506) 0 ⟨by kernel_rfl, by kernel_rfl⟩, trivial⟩ ?_
                  obtain ⟨w_659, hw_663, hb_660, hk_661, hz_662⟩ := new_world w_505 #[.int .i64 ((PS.getD j op0).kind), .string ((PS.getD j op0).text), .int .i64 ((PS.getD j op0).vk), .int .i64 ((PS.getD j op0).vn), .string ((PS.getD j op0).vt), .int .i64 ((PS.getD j op0).count), .slice B_482 ((PS.getD j op0).attrs.length) c_483] 47
                  rw [hw_663]
                  have hB_664 : Below wl2.heap.size wl2 w_659 := (bt (bt (bg hb_487 hg_492 (Nat.le_refl _)) hb_506) hb_660)
                  have hR_665 := Kd.R_litB (kRaw 7) (W := w_505) (e := 47) (cs := #[.int .i64 ((PS.getD j op0).kind), .string ((PS.getD j op0).text), .int .i64 ((PS.getD j op0).vk), .int .i64 ((PS.getD j op0).vn), .string ((PS.getD j op0).vt), .int .i64 ((PS.getD j op0).count), .slice B_482 ((PS.getD j op0).attrs.length) c_483]) [[.int .i64 ((PS.getD j op0).kind), .string ((PS.getD j op0).text), .int .i64 ((PS.getD j op0).vk), .int .i64 ((PS.getD j op0).vn), .string ((PS.getD j op0).vt), .int .i64 ((PS.getD j op0).count), .slice B_482 ((PS.getD j op0).attrs.length) c_483]] hk_661 (rawL1 _ rfl (by kernel_rfl)) (Nat.le_of_ble_eq_true (by kernel_rfl))
                  have hB_672 : Below wl.heap.size wl w_659 := (bt (bt (bg (bt HB2 hb_487) hg_492 (HB2).size) hb_506) hb_660)
                  refine XL_appendMixK (d := kOp) (W0 := w_15) (B := wl.heap.size) (c' := 1) (m := 1) op0 rfl rfl rfl 47 (.agg #[.int .i64 0, .string ByteArray.empty, .int .i64 0, .int .i64 0, .string ByteArray.empty, .int .i64 0, .slice none 0 0]) 88 Tryd.underlying37 info47 rfl (by decide) (by omega) T ([(PS.getD j op0)]) [[.int .i64 ((PS.getD j op0).kind), .string ((PS.getD j op0).text), .int .i64 ((PS.getD j op0).vk), .int .i64 ((PS.getD j op0).vn), .string ((PS.getD j op0).vt), .int .i64 ((PS.getD j op0).count), .slice B_482 ((PS.getD j op0).attrs.length) c_483]] (by kernel_rfl) (MixK.below hmx2 hB_664) (Kd.R_C hR_665) rfl (fun i_ hi_ => by have h_ : i_ = 0 := (by omega); subst h_; exact (kOp_K_of (x := (PS.getD j op0)) hl_484 hC_485)) (hB_672).size (by (try simp only [List.length_append, List.length_cons, List.length_nil, List.length_take]); omega) ?_
                  intro A_666 c_667 w_668 hm_669 hg_670 hl_671
                  have hB_673 : Below wl2.heap.size wl2 w_505 := (bt (bg hb_487 hg_492 (Nat.le_refl _)) hb_506)
                  have hk_674 := Blk.off hk_661 hg_670 (fun x_ e_ => Nat.ne_of_lt (Nat.lt_of_lt_of_le (MixK.lt hmx2 x_ e_) (hB_673).size))
                  obtain ⟨z_675, hz_676⟩ : ∃ z_, (T ++ [(PS.getD j op0)]) = z_ := ⟨_, rfl⟩; rw [hz_676] at hm_669 ⊢
                  have hz_675 := congrArg List.length hz_676; simp only [List.length_append, List.length_cons, List.length_nil, List.length_take] at hz_675
                  have hB_678 : Below w_15.heap.size w_15 w_668 := (bgo (bt (bt hB_504 hb_506) hb_660) hg_670 hl_671 (HB).size)
                  have hC_677 : kOp.C w_668 A_666 z_675.length z_675 := MixK.C hm_669 hB_678
                  refine xr0 1 [(15, .slice A_666 z_675.length c_667)] [155, 157, 158] ?_
                  refine XL_nil ?_
                  refine X_region ?_
                  refine xr 2 [(159, .eq (.int .i64 ((j : Int) + 1)))] [(108, .int .i64 ((j : Int) + 1))] [] [Value.int .i64 (IntKind.i64.wrap ((j : Int) + 1)) = Value.int .i64 ((j : Int) + 1)] ⟨wr_i64 (by omega) (by omega), trivial⟩ ?_
                  refine XL_nil ?_
                  have hB_679 : Below wl.heap.size wl w_668 := (bgo hB_672 hg_670 hl_671 (Nat.le_refl _))
                  refine ⟨(j + 1, z_675, A_666, c_667), by kernel_rfl, ?_, ?_⟩
                  · refine ⟨by omega, hm_669, ?_, by omega, hB_679⟩
                    rw [take_snocD op0 PS j (by omega), ← hz_676]
                    exact B.alk_add halk hpj hfj
                  · (try dsimp only); omega
              · refine xr 21 [(120, .eq (.bool false))] [(140, .bool false)] [16, 118, 119] [Value.bool (decide ((T.length : Int) > 0)) = Value.bool false] ⟨congrArg Value.bool (decide_eq_false (c_496)), trivial⟩ ?_
                refine XL_nil ?_
                refine X_cond false rfl ?_
                refine X_skip ?_
                refine X_region ?_
                refine xw 3 [(156, .load (.agg #[.int .i64 ((PS.getD j op0).kind), .string ((PS.getD j op0).text), .int .i64 ((PS.getD j op0).vk), .int .i64 ((PS.getD j op0).vn), .string ((PS.getD j op0).vt), .int .i64 ((PS.getD j op0).count), .slice B_482 ((PS.getD j op0).attrs.length) c_483]))] [(155, .slice Q2 T.length cq2), (157, .slice (some ⟨w_491.heap.size, 0, none⟩) 1 1)] [15, 17, 18, 140] (w_491.alloc (.cells #[.int .i64 ((PS.getD j op0).kind), .string ((PS.getD j op0).text), .int .i64 ((PS.getD j op0).vk), .int .i64 ((PS.getD j op0).vn), .string ((PS.getD j op0).vt), .int .i64 ((PS.getD j op0).count), .slice B_482 ((PS.getD j op0).attrs.length) c_483] 47)) [LoadsAs Tryd.prog 47 (⟨wl2.heap.size, 0, none⟩) (.agg #[.int .i64 ((PS.getD j op0).kind), .string ((PS.getD j op0).text), .int .i64 ((PS.getD j op0).vk), .int .i64 ((PS.getD j op0).vn), .string ((PS.getD j op0).vt), .int .i64 ((PS.getD j op0).count), .slice B_482 ((PS.getD j op0).attrs.length) c_483]) w_491] ⟨loadsB rfl rfl hk_493 0 ⟨by kernel_rfl, by kernel_rfl⟩, trivial⟩ ?_
                obtain ⟨w_680, hw_684, hb_681, hk_682, hz_683⟩ := new_world w_491 #[.int .i64 ((PS.getD j op0).kind), .string ((PS.getD j op0).text), .int .i64 ((PS.getD j op0).vk), .int .i64 ((PS.getD j op0).vn), .string ((PS.getD j op0).vt), .int .i64 ((PS.getD j op0).count), .slice B_482 ((PS.getD j op0).attrs.length) c_483] 47
                rw [hw_684]
                have hB_685 : Below wl2.heap.size wl2 w_680 := (bt (bg hb_487 hg_492 (Nat.le_refl _)) hb_681)
                have hR_686 := Kd.R_litB (kRaw 7) (W := w_491) (e := 47) (cs := #[.int .i64 ((PS.getD j op0).kind), .string ((PS.getD j op0).text), .int .i64 ((PS.getD j op0).vk), .int .i64 ((PS.getD j op0).vn), .string ((PS.getD j op0).vt), .int .i64 ((PS.getD j op0).count), .slice B_482 ((PS.getD j op0).attrs.length) c_483]) [[.int .i64 ((PS.getD j op0).kind), .string ((PS.getD j op0).text), .int .i64 ((PS.getD j op0).vk), .int .i64 ((PS.getD j op0).vn), .string ((PS.getD j op0).vt), .int .i64 ((PS.getD j op0).count), .slice B_482 ((PS.getD j op0).attrs.length) c_483]] hk_682 (rawL1 _ rfl (by kernel_rfl)) (Nat.le_of_ble_eq_true (by kernel_rfl))
                have hB_693 : Below wl.heap.size wl w_680 := (bt (bg (bt HB2 hb_487) hg_492 (HB2).size) hb_681)
                refine XL_appendMixK (d := kOp) (W0 := w_15) (B := wl.heap.size) (c' := 1) (m := 1) op0 rfl rfl rfl 47 (.agg #[.int .i64 0, .string ByteArray.empty, .int .i64 0, .int .i64 0, .string ByteArray.empty, .int .i64 0, .slice none 0 0]) 88 Tryd.underlying37 info47 rfl (by decide) (by omega) T ([(PS.getD j op0)]) [[.int .i64 ((PS.getD j op0).kind), .string ((PS.getD j op0).text), .int .i64 ((PS.getD j op0).vk), .int .i64 ((PS.getD j op0).vn), .string ((PS.getD j op0).vt), .int .i64 ((PS.getD j op0).count), .slice B_482 ((PS.getD j op0).attrs.length) c_483]] (by kernel_rfl) (MixK.below hmx2 hB_685) (Kd.R_C hR_686) rfl (fun i_ hi_ => by have h_ : i_ = 0 := (by omega); subst h_; exact (kOp_K_of (x := (PS.getD j op0)) hl_484 hC_485)) (hB_693).size (by (try simp only [List.length_append, List.length_cons, List.length_nil, List.length_take]); omega) ?_
                intro A_687 c_688 w_689 hm_690 hg_691 hl_692
                have hk_694 := Blk.off hk_682 hg_691 (fun x_ e_ => Nat.ne_of_lt (Nat.lt_of_lt_of_le (MixK.lt hmx2 x_ e_) ((bg hb_487 hg_492 (Nat.le_refl _))).size))
                obtain ⟨z_695, hz_696⟩ : ∃ z_, (T ++ [(PS.getD j op0)]) = z_ := ⟨_, rfl⟩; rw [hz_696] at hm_690 ⊢
                have hz_695 := congrArg List.length hz_696; simp only [List.length_append, List.length_cons, List.length_nil, List.length_take] at hz_695
                have hB_698 : Below w_15.heap.size w_15 w_689 := (bgo (bt (bg (bt (bt HB HB2) hb_487) hg_492 ((bt HB HB2)).size) hb_681) hg_691 hl_692 (HB).size)
                have hC_697 : kOp.C w_689 A_687 z_695.length z_695 := MixK.C hm_690 hB_698
                refine xr0 1 [(15, .slice A_687 z_695.length c_688)] [155, 157, 158] ?_
                refine XL_nil ?_
                refine X_region ?_
                refine xr 2 [(159, .eq (.int .i64 ((j : Int) + 1)))] [(108, .int .i64 ((j : Int) + 1))] [] [Value.int .i64 (IntKind.i64.wrap ((j : Int) + 1)) = Value.int .i64 ((j : Int) + 1)] ⟨wr_i64 (by omega) (by omega), trivial⟩ ?_
                refine XL_nil ?_
                have hB_699 : Below wl.heap.size wl w_689 := (bgo hB_693 hg_691 hl_692 (Nat.le_refl _))
                refine ⟨(j + 1, z_695, A_687, c_688), by kernel_rfl, ?_, ?_⟩
                · refine ⟨by omega, hm_690, ?_, by omega, hB_699⟩
                  rw [take_snocD op0 PS j (by omega), ← hz_696]
                  exact B.alk_add halk hpj hfj
                · (try dsimp only); omega
            · refine xr 24 [(117, .eq (.bool false))] [(140, .bool false)] [16, 116] [Value.bool ((PS.getD j op0).kind == 4) = Value.bool false] ⟨congrArg Value.bool (beq_eq_false_iff_ne.2 (c_495)), trivial⟩ ?_
              refine XL_nil ?_
              refine X_cond false rfl ?_
              refine X_skip ?_
              refine X_region ?_
              refine xw 3 [(156, .load (.agg #[.int .i64 ((PS.getD j op0).kind), .string ((PS.getD j op0).text), .int .i64 ((PS.getD j op0).vk), .int .i64 ((PS.getD j op0).vn), .string ((PS.getD j op0).vt), .int .i64 ((PS.getD j op0).count), .slice B_482 ((PS.getD j op0).attrs.length) c_483]))] [(155, .slice Q2 T.length cq2), (157, .slice (some ⟨w_491.heap.size, 0, none⟩) 1 1)] [15, 17, 18, 140] (w_491.alloc (.cells #[.int .i64 ((PS.getD j op0).kind), .string ((PS.getD j op0).text), .int .i64 ((PS.getD j op0).vk), .int .i64 ((PS.getD j op0).vn), .string ((PS.getD j op0).vt), .int .i64 ((PS.getD j op0).count), .slice B_482 ((PS.getD j op0).attrs.length) c_483] 47)) [LoadsAs Tryd.prog 47 (⟨wl2.heap.size, 0, none⟩) (.agg #[.int .i64 ((PS.getD j op0).kind), .string ((PS.getD j op0).text), .int .i64 ((PS.getD j op0).vk), .int .i64 ((PS.getD j op0).vn), .string ((PS.getD j op0).vt), .int .i64 ((PS.getD j op0).count), .slice B_482 ((PS.getD j op0).attrs.length) c_483]) w_491] ⟨loadsB rfl rfl hk_493 0 ⟨by kernel_rfl, by kernel_rfl⟩, trivial⟩ ?_
              obtain ⟨w_700, hw_704, hb_701, hk_702, hz_703⟩ := new_world w_491 #[.int .i64 ((PS.getD j op0).kind), .string ((PS.getD j op0).text), .int .i64 ((PS.getD j op0).vk), .int .i64 ((PS.getD j op0).vn), .string ((PS.getD j op0).vt), .int .i64 ((PS.getD j op0).count), .slice B_482 ((PS.getD j op0).attrs.length) c_483] 47
              rw [hw_704]
              have hB_705 : Below wl2.heap.size wl2 w_700 := (bt (bg hb_487 hg_492 (Nat.le_refl _)) hb_701)
              have hR_706 := Kd.R_litB (kRaw 7) (W := w_491) (e := 47) (cs := #[.int .i64 ((PS.getD j op0).kind), .string ((PS.getD j op0).text), .int .i64 ((PS.getD j op0).vk), .int .i64 ((PS.getD j op0).vn), .string ((PS.getD j op0).vt), .int .i64 ((PS.getD j op0).count), .slice B_482 ((PS.getD j op0).attrs.length) c_483]) [[.int .i64 ((PS.getD j op0).kind), .string ((PS.getD j op0).text), .int .i64 ((PS.getD j op0).vk), .int .i64 ((PS.getD j op0).vn), .string ((PS.getD j op0).vt), .int .i64 ((PS.getD j op0).count), .slice B_482 ((PS.getD j op0).attrs.length) c_483]] hk_702 (rawL1 _ rfl (by kernel_rfl)) (Nat.le_of_ble_eq_true (by kernel_rfl))
              have hB_713 : Below wl.heap.size wl w_700 := (bt (bg (bt HB2 hb_487) hg_492 (HB2).size) hb_701)
              refine XL_appendMixK (d := kOp) (W0 := w_15) (B := wl.heap.size) (c' := 1) (m := 1) op0 rfl rfl rfl 47 (.agg #[.int .i64 0, .string ByteArray.empty, .int .i64 0, .int .i64 0, .string ByteArray.empty, .int .i64 0, .slice none 0 0]) 88 Tryd.underlying37 info47 rfl (by decide) (by omega) T ([(PS.getD j op0)]) [[.int .i64 ((PS.getD j op0).kind), .string ((PS.getD j op0).text), .int .i64 ((PS.getD j op0).vk), .int .i64 ((PS.getD j op0).vn), .string ((PS.getD j op0).vt), .int .i64 ((PS.getD j op0).count), .slice B_482 ((PS.getD j op0).attrs.length) c_483]] (by kernel_rfl) (MixK.below hmx2 hB_705) (Kd.R_C hR_706) rfl (fun i_ hi_ => by have h_ : i_ = 0 := (by omega); subst h_; exact (kOp_K_of (x := (PS.getD j op0)) hl_484 hC_485)) (hB_713).size (by (try simp only [List.length_append, List.length_cons, List.length_nil, List.length_take]); omega) ?_
              intro A_707 c_708 w_709 hm_710 hg_711 hl_712
              have hk_714 := Blk.off hk_702 hg_711 (fun x_ e_ => Nat.ne_of_lt (Nat.lt_of_lt_of_le (MixK.lt hmx2 x_ e_) ((bg hb_487 hg_492 (Nat.le_refl _))).size))
              obtain ⟨z_715, hz_716⟩ : ∃ z_, (T ++ [(PS.getD j op0)]) = z_ := ⟨_, rfl⟩; rw [hz_716] at hm_710 ⊢
              have hz_715 := congrArg List.length hz_716; simp only [List.length_append, List.length_cons, List.length_nil, List.length_take] at hz_715
              have hB_718 : Below w_15.heap.size w_15 w_709 := (bgo (bt (bg (bt (bt HB HB2) hb_487) hg_492 ((bt HB HB2)).size) hb_701) hg_711 hl_712 (HB).size)
              have hC_717 : kOp.C w_709 A_707 z_715.length z_715 := MixK.C hm_710 hB_718
              refine xr0 1 [(15, .slice A_707 z_715.length c_708)] [155, 157, 158] ?_
              refine XL_nil ?_
              refine X_region ?_
              refine xr 2 [(159, .eq (.int .i64 ((j : Int) + 1)))] [(108, .int .i64 ((j : Int) + 1))] [] [Value.int .i64 (IntKind.i64.wrap ((j : Int) + 1)) = Value.int .i64 ((j : Int) + 1)] ⟨wr_i64 (by omega) (by omega), trivial⟩ ?_
              refine XL_nil ?_
              have hB_719 : Below wl.heap.size wl w_709 := (bgo hB_713 hg_711 hl_712 (Nat.le_refl _))
              refine ⟨(j + 1, z_715, A_707, c_708), by kernel_rfl, ?_, ?_⟩
              · refine ⟨by omega, hm_710, ?_, by omega, hB_719⟩
                rw [take_snocD op0 PS j (by omega), ← hz_716]
                exact B.alk_add halk hpj hfj
              · (try dsimp only); omega
          · refine xr 1 [(109, .eq (.bool false))] [(109, .bool false)] [] [Value.bool (decide ((j : Int) < (PS.length : Int))) = Value.bool false] ⟨congrArg Value.bool (decide_eq_false (c_478)), trivial⟩ ?_
            refine XL_nil ?_
            refine X_seq ?_
            refine X_cond false rfl ?_
            refine X_exit ?_
            refine X_seq ?_
            refine X_region ?_
            refine xr0 1 [(160, .slice Q PS.length cq)] [1, 8, 106, 107, 108, 109] ?_
            have hB_726 : Below w.heap.size w wl2 := (bt (bt (bt (bt (bt hb_2 hb_4) hb_7) hb_18) HB) HB2)
            refine XL_call 26 rfl rfl rfl ent26 [.slice Q PS.length cq] (by kernel_rfl) (hmake_any _ _ PS _ (Kd.C_below hC_470 HB2) (MixK.len hmx).2 (by omega) hsz (by have h_ := hpp.t; omega) (hT.below hB_726) es (hO.below hB_726)) ?_
            rintro e w_720 ⟨hb_721, ⟨hb0_722, p, A_723, c_724, rfl, hd_725⟩ | ⟨hb0_722, rfl⟩⟩
            · refine ⟨_, rfl, ?_⟩
              obtain ⟨hcb_p, hcn_p, hcz_p, hcc_p⟩ := can_facts (xs := PS) hb0_722 (by omega) hsz (by have h_ := hpp.t; omega)
              have hD_p := hd_725.c
              refine xr0 1 [(161, pw p 0), (162, .slice A_13 ((B.can xs).length) c_14)] [160] ?_
              refine XL_call 29 rfl rfl rfl ent29 [.pointer (some ⟨p, 0, none⟩), .slice A_13 ((B.can xs).length) c_14] (by kernel_rfl) (his_any p (B.can PS) _ _ _ _ hD_p hcb_p hcn_p hcz_p (Kd.C_below hC_19 (bt (bt HB HB2) hb_721))) ?_
              rintro e w_727 ⟨rfl, hb_728⟩; refine ⟨_, rfl, ?_⟩
              rw [(opsEqP_iff _ _).2 hpt.2]
              refine xr0 2 [(164, .bool true), (165, .slice Q2 T.length cq2)] [15, 161, 162, 163] ?_
              have hje : j = PS.length := by omega
              rw [hje, List.take_length] at halk
              have halk2 := B.alk_trans halk hpp
              have hpt2 := B.alk_can halk2 hcc_d
              have hsz2 := B.alk_sz halk2 (by omega)
              refine XL_call 26 rfl rfl rfl ent26 [.slice Q2 T.length cq2] (by kernel_rfl) (hmake_any _ _ T _ (Kd.C_below hC_477 (bt hb_721 hb_728)) (MixK.len hmx2).2 (by omega) hsz2 (by have h_ := halk.t; have h2_ := hpp.t; omega) (hT.below (bt (bt hB_726 hb_721) hb_728)) es (hO.below (bt (bt hB_726 hb_721) hb_728))) ?_
              rintro e w_729 ⟨hb_730, ⟨hb0_731, t, A_732, c_733, rfl, hd_734⟩ | ⟨hb0_731, rfl⟩⟩
              · refine ⟨_, rfl, ?_⟩
                obtain ⟨hcb_t, hcn_t, hcz_t, hcc_t⟩ := can_facts (xs := T) hb0_731 (by omega) hsz2 (by have h_ := halk.t; have h2_ := hpp.t; omega)
                have hD_t := hd_734.c
                refine xr0 1 [(166, pw t 0), (167, .slice A_13 ((B.can xs).length) c_14)] [7, 165] ?_
                have hB_735 : Below w_15.heap.size w_15 w_729 := (bt (bt (bt (bt HB HB2) hb_721) hb_728) hb_730)
                refine XL_call 29 rfl rfl rfl ent29 [.pointer (some ⟨t, 0, none⟩), .slice A_13 ((B.can xs).length) c_14] (by kernel_rfl) (his_any t (B.can T) _ _ _ _ hD_t hcb_t hcn_t hcz_t (Kd.C_below hC_19 hB_735)) ?_
                rintro e w_736 ⟨rfl, hb_737⟩; refine ⟨_, rfl, ?_⟩
                rw [(opsEqP_iff _ _).2 hpt2.2]
                refine xe0 2 [(4, .bool true)] ?_
                refine XL_nil ?_
                refine X_ret ?_
                refine RX.ret_ok (P := Tryd.prog) (fn := Tryd.f4) (N := 170) (R := R_) [.bool true] (by kernel_rfl) (hR_ _ _ ?_)
                have hB_738 : Below w.heap.size w w_736 := (bt (bt (bt (bt hB_726 hb_721) hb_728) hb_730) hb_737)
                exact ⟨rfl, hB_738⟩
              · exact absurd hpt2.1 hb0_731
            · exact absurd hpt.1 hb0_722
    · refine ⟨_, rfl, ?_⟩
      refine xr0 1 [(6, .pointer none)] [27, 28] ?_
      refine XL_nil ?_
      refine X_seq ?_
      refine X_seq ?_
      refine X_region ?_
      refine xe0 7 [(1, .slice D cs.length dc), (6, .pointer none), (35, .bool true)] ?_
      refine XL_nil ?_
      refine X_cond true rfl ?_
      refine X_seq ?_
      refine X_region ?_
      refine xe0 1 [(4, .bool true)] ?_
      refine XL_nil ?_
      refine X_ret ?_
      refine RX.ret_ok (P := Tryd.prog) (fn := Tryd.f4) (N := 170) (R := R_) [.bool true] (by kernel_rfl) (hR_ _ _ ?_)
      exact ⟨rfl, (bt (bt hb_2 hb_4) hb_7)⟩
end Go.Proofs.YtkehomiogkoomaaDoor
