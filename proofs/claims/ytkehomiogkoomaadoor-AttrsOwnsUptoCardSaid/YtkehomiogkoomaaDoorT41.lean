/- slices.Insert of one attribute. Conditions: sizes. -/
import Derived.Test.YtkehomiogkoomaaDoorT40
import Derived.Test.YtkehomiogkoomaaDoorIns2
set_option linter.unusedVariables false
set_option linter.unusedSimpArgs false
set_option maxRecDepth 100000
namespace Go.Proofs.YtkehomiogkoomaaDoor
open Go Go.RowKit Go.Proofs.YtkehomiogkoomaaDoorW.PrintWords RX
theorem ent102 : Ent Tryd.prog 102 := ent_of Tryd.func102 (by kernel_rfl) rfl
theorem overl_run (args : Array Value) (w : World) : (callFunc 150 args).run Tryd.prog w = ((Extern.SlicesOverlaps.overlaps #[45, 45] #[4] args).run Tryd.prog w).andThen fun v w'' => .ok (.value v) w'' :=
 run_callFunc_extern Tryd.func150 (by kernel_rfl) (by kernel_rfl) (by kernel_rfl) (e := Extern.SlicesOverlaps.overlaps #[45, 45] #[4]) (by kernel_rfl) args w
theorem insEnd_any (A : Option Addr) (c vb : Nat) (xs : List At) (x : At) (wB w : World) (hB : wB.heap.size ≤ w.heap.size) (hR : kAttr.R 71 w wB.heap.size (OkFrom wB.heap.size) (.slice A xs.length c) xs) (hv : RX.Blk w vb 71 (atV x).toArray) (hl : xs.length ≤ 1000000000) :
  Calls Tryd.prog 102 #[.slice A xs.length c, .int .i64 (xs.length : Int), .slice (some ⟨vb, 0, none⟩) 1 1] w fun e w' => ∃ A' c', e = .returned (.slice A' (xs ++ [x]).length c') ∧ kAttr.R 71 w' wB.heap.size (OkFrom wB.heap.size) (.slice A' (xs ++ [x]).length c') (xs ++ [x]) ∧ w.grownBy w' (A.map (·.block)) := by
 have hv1 : kAttr.C w (some ⟨vb, 0, none⟩) 1 [x] := ⟨rfl, by decide, fun _ => ⟨_, rfl, fun j p hj => by
  cases j with
  | zero =>
   obtain rfl : x = p := by simpa using hj
   refine ⟨atV x, rfl, kAttr.K_of_M (kAttr_M w 0 (fun _ => False) x), fun i u hu => ?_⟩
   have : (⟨vb, 0, none⟩ : Addr).add (0 * kAttr.sz + i) = ⟨vb, i, none⟩ := by unfold Addr.add; split <;> simp_all
   rw [this]
   exact Blk.cell hv i u (by simpa using hu)
  | succ j => simp at hj⟩⟩
 refine RX.enter Tryd.func102 rfl 95 rfl [(0, .slice A xs.length c), (1, .int .i64 (xs.length : Int)), (2, .slice (some ⟨vb, 0, none⟩) 1 1)] rfl (by kernel_rfl) (fun R_ hR_ => ?_)
 refine sq (rg (xe0 1 [(0, .slice A xs.length c), (1, .int .i64 (xs.length : Int)), (2, .slice (some ⟨vb, 0, none⟩) 1 1)] ?_))
 refine nl (sq (X_region ?_))
 obtain ⟨A_1, hA_2⟩ : ∃ A_, (if c = xs.length then A else A.map (·.add (xs.length * 4))) = A_ := ⟨_, rfl⟩
 have hC_3 : kAttr.C w A_1 (xs.length - xs.length) (xs.drop xs.length) := by have h := RX.Kd.C_drop (Kd.R_C hR) (k := xs.length) (cap := c) (by omega) (RX.Kd.R_len hR).2; first | (rw [← hA_2]; exact h)
 refine xr 3 [(12, .as (.slice A_1 (xs.length - xs.length) (c - xs.length)))] [] [] [RunsAs Tryd.prog [(10, .slice A xs.length c), (11, .int .i64 (xs.length : Int))] (Go.Op.slice 45 (Go.Operand.tmp 10) (some (Go.Operand.tmp 11)) none none) 45 (.slice A_1 (xs.length - xs.length) (c - xs.length)) w] ⟨(hA_2 ▸ runs_slice_l (h := (xs.length : Int)) rfl rfl rfl rfl (by omega) (by omega) (RX.Kd.R_len hR).2), trivial⟩ ?_
 refine nl (sq (rg (xr0 3 [(7, .int .i64 1)] [] ?_)))
 refine nl (sq (sq (rg (xr0 2 [(16, .bool false)] [] ?_))))
 refine nl (cf (sk (sq (rg (xr0 3 [(8, .int .i64 (xs.length : Int))] [16] ?_)))))
 refine nl (sq (sq (rg (xr 3 [(22, .eq (.bool true))] [(22, .bool true)] [] [Value.bool ((xs.length : Int) == (xs.length : Int)) = Value.bool true] ⟨congrArg Value.bool (beq_self_eq_true _), trivial⟩ ?_))))
 refine nl (ct (sq (rg (xe0 2 [(23, .slice A xs.length c), (24, .slice (some ⟨vb, 0, none⟩) 1 1)] ?_))))
 refine XL_appendAll (c' := 1) kAttr rfl rfl rfl wB.heap.size 71 (.agg #[.string ByteArray.empty, .int .i64 0, .int .i64 0, .string ByteArray.empty]) 48 Tryd.underlying45 info71 rfl (by decide) (by omega) xs ([x]) (by kernel_rfl) hR hv1 kAttr_KM hB (by first | omega | (simp; omega)) ?_
 intro A_4 c_5 w_6 hr_7 hc_8 hg_9 hl_10 ha_11
 refine xe0 1 [(6, .slice A_4 ((xs ++ ([x])).length) c_5)] ?_
 refine nl (X_ret (rk [.slice A_4 ((xs ++ ([x])).length) c_5] (hR_ _ _ ?_)))
 exact ⟨_, _, rfl, hr_7, hg_9⟩
theorem insMid_any (g c vb i n : Nat) (xs : List At) (x : At) (cur : Array Value) (w : World) (hn : xs.length = n) (hi : i < n) (hk : RX.Blk w g 71 cur) (hc : n ≤ c) (hm : c ≤ maxLen) (hs : cur.size = c * 4) (ht : cur.toList.take (n * 4) = xs.flatMap atV) (hv : RX.Blk w vb 71 (atV x).toArray) (hne : vb ≠ g) (hl : n ≤ 1000000000) :
  Calls Tryd.prog 102 #[.slice (some ⟨g, 0, none⟩) n c, .int .i64 (i : Int), .slice (some ⟨vb, 0, none⟩) 1 1] w fun e w' => ∃ g' c' cur', e = .returned (.slice (some ⟨g', 0, none⟩) (n + 1) c') ∧ RX.Blk w' g' 71 cur' ∧ n + 1 ≤ c' ∧ c' ≤ maxLen ∧ cur'.size = c' * 4 ∧ cur'.toList.take ((n + 1) * 4) = (xs.take i ++ x :: xs.drop i).flatMap atV ∧ w.grownBy w' (some g) ∧ (g' = g ∨ w.heap.size ≤ g') := by
 have hm2 : c ≤ 9223372036854775807 := by unfold maxLen at hm; omega
 have hD : ((xs.drop i).flatMap atV).length = (n - i) * 4 := by rw [flat_len, List.length_drop, hn]
 have hV : ∀ (W : World), RX.Blk W vb 71 (atV x).toArray → ∀ j v, (atV x)[j]? = some v → W.cell? ((⟨vb, 0, none⟩ : Addr).add j) = some v := fun W hW j v hj => by
  have : (⟨vb, 0, none⟩ : Addr).add j = ⟨vb, j, none⟩ := by unfold Addr.add; split <;> simp_all
  rw [this]
  exact Blk.cell hW j v (by simpa using hj)
 have h1V : ∀ v ∈ atV x, v.oneCell' = true := by
  intro v hv
  simp only [atV, List.mem_cons, List.not_mem_nil, or_false] at hv
  rcases hv with rfl | rfl | rfl | rfl <;> rfl
 have hci : cur.toList.take (i * 4) = (xs.take i).flatMap atV := by
  have hf : xs.flatMap atV = (xs.take i).flatMap atV ++ (xs.drop i).flatMap atV := by rw [← List.flatMap_append, List.take_append_drop]
  have hli : ((xs.take i).flatMap atV).length = i * 4 := by rw [flat_len, List.length_take]; omega
  have h2 : (cur.toList.take (n * 4)).take (i * 4) = (xs.take i).flatMap atV := by rw [ht, hf, ← hli, List.take_left]
  rw [List.take_take] at h2
  rwa [Nat.min_eq_left (by omega)] at h2
 refine RX.enter Tryd.func102 rfl 95 rfl [(0, .slice (some ⟨g, 0, none⟩) n c), (1, .int .i64 (i : Int)), (2, .slice (some ⟨vb, 0, none⟩) 1 1)] rfl (by kernel_rfl) (fun R_ hR_ => ?_)
 refine sq (rg (xe0 1 [(0, .slice (some ⟨g, 0, none⟩) n c), (1, nv i), (2, .slice (some ⟨vb, 0, none⟩) 1 1)] ?_))
 refine nl (sq (rg (xr0 2 [(10, .slice (some ⟨g, 0, none⟩) n c), (11, nv i)] [] ?_)))
 refine xr 1 [(12, .as (.slice (some ⟨g, i * 4, none⟩) (n - i) (c - i)))] [] [10, 11] [RunsAs Tryd.prog [(10, .slice (some ⟨g, 0, none⟩) n c), (11, .int .i64 (i : Int))] (Go.Op.slice 45 (Go.Operand.tmp 10) (some (Go.Operand.tmp 11)) none none) 45 (.slice (some ⟨g, i * 4, none⟩) (n - i) (c - i)) w] ⟨runs_slice_lB (i := i) rfl rfl rfl rfl (by omega) (by omega) (by omega) (by omega), trivial⟩ ?_
 refine nl (sq (rg (xr0 3 [(7, .int .i64 1)] [] ?_)))
 refine nl (sq (sq (rg (xr0 2 [(16, .bool false)] [] ?_))))
 refine nl (cf (sk (sq (rg (xr0 3 [(8, nv n)] [16] ?_)))))
 refine nl (sq (sq (rg (xe 3 [(22, .eq (.bool false))] [(0, .slice (some ⟨g, 0, none⟩) n c), (1, nv i), (2, .slice (some ⟨vb, 0, none⟩) 1 1), (7, .int .i64 1), (8, nv n), (22, .bool false)] [Value.bool ((i : Int) == (n : Int)) = Value.bool false] ⟨congrArg Value.bool (beq_eq_false_iff_ne.2 ((by omega))), trivial⟩ ?_))))
 refine nl (cf (sk (sq (sq (rg (xr 5 [(28, .eq (.int .i64 ((n : Int) + 1)))] [(28, .int .i64 ((n : Int) + 1)), (30, nv c)] [22] [Value.int .i64 (IntKind.i64.wrap ((n : Int) + 1)) = Value.int .i64 ((n : Int) + 1)] ⟨wr_i64 (by omega) (by omega), trivial⟩ ?_))))))
 by_cases c_1 : (n : Int) + 1 > (c : Int)
 ·refine xr 1 [(31, .eq (.bool true))] [(31, .bool true)] [28, 30] [Value.bool (decide ((n : Int) + 1 > (c : Int))) = Value.bool true] ⟨congrArg Value.bool (decide_eq_true (c_1)), trivial⟩ ?_
  refine nl (ct (sq (rg (xr0 2 [(32, .slice (some ⟨g, 0, none⟩) n c), (33, nv i)] [31] ?_))))
  refine xr 6 [(34, .as (.slice (some ⟨g, 0, none⟩) i c)), (37, .eq (.int .i64 ((n : Int) + 1))), (39, .eq (.int .i64 (((n : Int) + 1) - (i : Int))))] [(34, .slice (some ⟨g, 0, none⟩) i c), (39, .int .i64 (((n : Int) + 1) - (i : Int)))] [8, 32, 33] [RunsAs Tryd.prog [(32, .slice (some ⟨g, 0, none⟩) n c), (33, .int .i64 (i : Int))] (Go.Op.slice 45 (Go.Operand.tmp 32) none (some (Go.Operand.tmp 33)) none) 45 (.slice (some ⟨g, 0, none⟩) i c) w, Value.int .i64 (IntKind.i64.wrap ((n : Int) + 1)) = Value.int .i64 ((n : Int) + 1), Value.int .i64 (IntKind.i64.wrap (((n : Int) + 1) - (i : Int))) = Value.int .i64 (((n : Int) + 1) - (i : Int))] ⟨(runs_slice_hN (i := i) rfl rfl rfl rfl (by omega) (by omega)), wr_i64 (by omega) (by omega), wr_i64 (by omega) (by omega), trivial⟩ ?_
  refine XL_appendZ (k := n + 1 - i) rfl rfl rfl Tryd.underlying45 Tryd.underlying3 info71 rfl (by decide) rfl hk (by omega) (by omega) (by omega) (by omega) (by omega) (by decide) (fun c_2 w_3 cs_4 hb_5 hz_6 hk_7 hc_8 hm_9 hs_10 ht_11 => ?_)
  have hk_12 := Blk.below hk hb_5
  have hk_13 := Blk.below hv hb_5
  have hgl_ := hk.lt
  have hvl_ := hv.lt
  have hwz_ : w.heap.size ≤ w.heap.size := (Nat.le_refl _)
  refine xr0 1 [(9, .slice (some ⟨w.heap.size, 0, none⟩) (i + (n + 1 - i)) c_2)] [34, 39, 40] ?_
  refine nl (sq (rg (xe0 2 [(0, .slice (some ⟨g, 0, none⟩) n c), (1, nv i), (2, .slice (some ⟨vb, 0, none⟩) 1 1), (7, .int .i64 1), (9, .slice (some ⟨w.heap.size, 0, none⟩) (i + (n + 1 - i)) c_2), (41, .slice (some ⟨w.heap.size, 0, none⟩) (i + (n + 1 - i)) c_2), (42, nv i)] ?_)))
  refine xr 2 [(43, .as (.slice (some ⟨w.heap.size, i * 4, none⟩) ((i + (n + 1 - i)) - i) (c_2 - i)))] [(43, .slice (some ⟨w.heap.size, i * 4, none⟩) ((i + (n + 1 - i)) - i) (c_2 - i)), (44, .slice (some ⟨vb, 0, none⟩) 1 1)] [2, 41, 42] [RunsAs Tryd.prog [(41, .slice (some ⟨w.heap.size, 0, none⟩) (i + (n + 1 - i)) c_2), (42, .int .i64 (i : Int))] (Go.Op.slice 45 (Go.Operand.tmp 41) (some (Go.Operand.tmp 42)) none none) 45 (.slice (some ⟨w.heap.size, i * 4, none⟩) ((i + (n + 1 - i)) - i) (c_2 - i)) w_3] ⟨runs_slice_lB (i := i) rfl rfl rfl rfl (by omega) (by omega) (by omega) (by omega), trivial⟩ ?_
  obtain ⟨cur_18, hcur_18⟩ : ∃ c_, (cs_4.toList.take (i * 4) ++ (atV x) ++ cs_4.toList.drop (i * 4 + (atV x).length)) = c_ := ⟨_, rfl⟩
  refine XL_copyB (sz := 4) (sl := 1) (dl := ((i + (n + 1 - i)) - i)) rfl rfl rfl (atV x) cur_18 Tryd.underlying45 rfl rfl hk_7 (by first | (show 4 = min _ _ * 4; omega) | (rw [hD]; show _ = min _ _ * 4; omega)) (hV _ hk_13) (by first | (rw [hD]; omega) | (show _ + 4 ≤ _; omega)) h1V hcur_18 (fun w_14 hg_15 hk_16 hz_17 => ?_)
  have hk_19 := Blk.ne hk_12 hg_15 (fun k_ e_ => by injection e_ with e_; subst e_; exact (by omega))
  have hk_20 := Blk.ne hk_13 hg_15 (fun k_ e_ => by injection e_ with e_; subst e_; exact (by omega))
  have hs_21 : cur_18.toArray.size = cs_4.size := by rw [← hcur_18]; exact splice_size _ _ _ (by first | (rw [hD]; omega) | (show _ + 4 ≤ _; omega))
  refine nl (sq (X_any [8] 9 #[false, false, false, false, false, false, false, false, false] (by kernel_rfl) (by kernel_rfl) (by kernel_rfl) (fun wd_22 hb_23 hh_24 => ?_)))
  refine XA_run (fuel' := 5) [0, 1, 2, 3] [(49, .eq (.int .i64 ((i : Int) + 1)))] [.slice (some ⟨w.heap.size, 0, none⟩) (i + (n + 1 - i)) c_2, .int .i64 (i : Int), .int .i64 1, .int .i64 ((i : Int) + 1)] #[true, true, true, true, false, false, false, false, false] [(0, .slice (some ⟨g, 0, none⟩) n c), (1, .int .i64 (i : Int)), (9, .slice (some ⟨w.heap.size, 0, none⟩) (i + (n + 1 - i)) c_2), (46, .slice (some ⟨w.heap.size, 0, none⟩) (i + (n + 1 - i)) c_2), (49, .int .i64 ((i : Int) + 1))] [Value.int .i64 (IntKind.i64.wrap ((i : Int) + 1)) = Value.int .i64 ((i : Int) + 1)] (fun _ _ _ _ h => h) (by kernel_rfl) rfl ⟨wr_i64 (by omega) (by omega), trivial⟩ ?_
  refine XA_run (fuel' := 2) [4, 5, 6] [(50, .as (.slice (some ⟨w.heap.size, (i + 1) * 4, none⟩) ((i + (n + 1 - i)) - (i + 1)) (c_2 - (i + 1))))] [.slice (some ⟨w.heap.size, (i + 1) * 4, none⟩) ((i + (n + 1 - i)) - (i + 1)) (c_2 - (i + 1)), .slice (some ⟨g, 0, none⟩) n c, .int .i64 (i : Int)] #[true, true, true, true, true, true, true, false, false] [(9, .slice (some ⟨w.heap.size, 0, none⟩) (i + (n + 1 - i)) c_2), (50, .slice (some ⟨w.heap.size, (i + 1) * 4, none⟩) ((i + (n + 1 - i)) - (i + 1)) (c_2 - (i + 1))), (51, .slice (some ⟨g, 0, none⟩) n c), (52, .int .i64 (i : Int))] [RunsAs Tryd.prog [(46, .slice (some ⟨w.heap.size, 0, none⟩) (i + (n + 1 - i)) c_2), (49, .int .i64 ((i : Int) + 1))] (Go.Op.slice 45 (Go.Operand.tmp 46) (some (Go.Operand.tmp 49)) none none) 45 (.slice (some ⟨w.heap.size, (i + 1) * 4, none⟩) ((i + (n + 1 - i)) - (i + 1)) (c_2 - (i + 1))) wd_22] (fun _ _ _ _ h => h) (by kernel_rfl) rfl ⟨runs_slice_lB (i := (i + 1)) rfl rfl rfl rfl (by omega) (by omega) (by omega) (by omega), trivial⟩ ?_
  refine XA_run (fuel' := 1) [7] [(53, .as (.slice (some ⟨g, i * 4, none⟩) (n - i) (c - i)))] [.slice (some ⟨g, i * 4, none⟩) (n - i) (c - i)] #[true, true, true, true, true, true, true, true, false] [(9, .slice (some ⟨w.heap.size, 0, none⟩) (i + (n + 1 - i)) c_2), (50, .slice (some ⟨w.heap.size, (i + 1) * 4, none⟩) ((i + (n + 1 - i)) - (i + 1)) (c_2 - (i + 1))), (53, .slice (some ⟨g, i * 4, none⟩) (n - i) (c - i))] [RunsAs Tryd.prog [(51, .slice (some ⟨g, 0, none⟩) n c), (52, .int .i64 (i : Int))] (Go.Op.slice 45 (Go.Operand.tmp 51) (some (Go.Operand.tmp 52)) none none) 45 (.slice (some ⟨g, i * 4, none⟩) (n - i) (c - i)) wd_22] (fun _ _ _ _ h => h) (by kernel_rfl) rfl ⟨runs_slice_lB (i := i) rfl rfl rfl rfl (by omega) (by omega) (by omega) (by omega), trivial⟩ ?_
  refine XA_act (fuel' := 0) 8 #[true, true, true, true, true, true, true, true, true] _ rfl (by kernel_rfl) rfl (by kernel_rfl) rfl ?_
  obtain ⟨cur_29, hcur_29⟩ : ∃ c_, (cur_18.toArray.toList.take ((i + 1) * 4) ++ ((xs.drop i).flatMap atV) ++ cur_18.toArray.toList.drop ((i + 1) * 4 + ((xs.drop i).flatMap atV).length)) = c_ := ⟨_, rfl⟩
  refine XL_copyB (sz := 4) (sl := (n - i)) (dl := ((i + (n + 1 - i)) - (i + 1))) rfl rfl rfl ((xs.drop i).flatMap atV) cur_29 Tryd.underlying45 rfl rfl (Blk.below hk_16 hb_23) (by first | (show 4 = min _ _ * 4; omega) | (rw [hD]; show _ = min _ _ * 4; omega)) (blk_src (Blk.below hk_19 hb_23) hn ht (by omega)) (by first | (rw [hD]; omega) | (show _ + 4 ≤ _; omega)) flat_one hcur_29 (fun w_25 hg_26 hk_27 hz_28 => ?_)
  have hk_30 := Blk.ne (Blk.below hk_19 hb_23) hg_26 (fun k_ e_ => by injection e_ with e_; subst e_; exact (by omega))
  have hk_31 := Blk.ne (Blk.below hk_20 hb_23) hg_26 (fun k_ e_ => by injection e_ with e_; subst e_; exact (by omega))
  have hs_32 : cur_29.toArray.size = cur_18.toArray.size := by rw [← hcur_29]; exact splice_size _ _ _ (by first | (rw [hD]; omega) | (show _ + 4 ≤ _; omega))
  refine nl (XA_done (by kernel_rfl) ?_)
  refine sq (rg (xe0 2 [(6, .slice (some ⟨w.heap.size, 0, none⟩) (i + (n + 1 - i)) c_2)] ?_))
  refine nl (X_ret (rk [.slice (some ⟨w.heap.size, 0, none⟩) (i + (n + 1 - i)) c_2] (hR_ _ _ ?_)))
  refine ⟨_, c_2, _, by rw [show i + (n + 1 - i) = n + 1 from by omega]; rfl, hk_27, by omega, hm_9, by rw [hs_32, hs_21, hs_10], ?_, (grown_past (World.grownBy.trans (grown_past (World.grownBy.trans (World.grownBy.refl _ _) (grown_of_below hb_5 _)) hg_15 hwz_) (grown_of_below hb_23 _)) hg_26 hwz_), .inr hwz_⟩
  exact insC hn hi (by rw [Array.length_toList]; omega) hci ht_11 rfl hcur_18 hcur_29
 refine xr 1 [(31, .eq (.bool false))] [(31, .bool false)] [28, 30] [Value.bool (decide ((n : Int) + 1 > (c : Int))) = Value.bool false] ⟨congrArg Value.bool (decide_eq_false (c_1)), trivial⟩ ?_
 refine nl (cf (sk (sq (rg (xr 4 [(59, .eq (.int .i64 ((n : Int) + 1)))] [(56, .slice (some ⟨g, 0, none⟩) n c), (59, .int .i64 ((n : Int) + 1))] [0, 31] [Value.int .i64 (IntKind.i64.wrap ((n : Int) + 1)) = Value.int .i64 ((n : Int) + 1)] ⟨wr_i64 (by omega) (by omega), trivial⟩ ?_)))))
 refine xr 2 [(60, .as (.slice (some ⟨g, 0, none⟩) (n + 1) c))] [(0, .slice (some ⟨g, 0, none⟩) (n + 1) c)] [56, 59] [RunsAs Tryd.prog [(56, .slice (some ⟨g, 0, none⟩) n c), (59, .int .i64 ((n : Int) + 1))] (Go.Op.slice 45 (Go.Operand.tmp 56) none (some (Go.Operand.tmp 59)) none) 45 (.slice (some ⟨g, 0, none⟩) (n + 1) c) w] ⟨(runs_slice_hN (i := n + 1) rfl rfl rfl rfl (by omega) (by omega)), trivial⟩ ?_
 refine nl (sq (sq (rg (xr 5 [(65, .eq (.int .i64 ((i : Int) + 1)))] [(61, .slice (some ⟨vb, 0, none⟩) 1 1), (62, .slice (some ⟨g, 0, none⟩) (n + 1) c), (65, .int .i64 ((i : Int) + 1))] [] [Value.int .i64 (IntKind.i64.wrap ((i : Int) + 1)) = Value.int .i64 ((i : Int) + 1)] ⟨wr_i64 (by omega) (by omega), trivial⟩ ?_))))
 refine xe 1 [(66, .as (.slice (some ⟨g, (i + 1) * 4, none⟩) ((n + 1) - (i + 1)) (c - (i + 1))))] [(0, .slice (some ⟨g, 0, none⟩) (n + 1) c), (1, nv i), (2, .slice (some ⟨vb, 0, none⟩) 1 1), (7, .int .i64 1), (8, nv n), (61, .slice (some ⟨vb, 0, none⟩) 1 1), (66, .slice (some ⟨g, (i + 1) * 4, none⟩) ((n + 1) - (i + 1)) (c - (i + 1)))] [RunsAs Tryd.prog [(62, .slice (some ⟨g, 0, none⟩) (n + 1) c), (65, .int .i64 ((i : Int) + 1))] (Go.Op.slice 45 (Go.Operand.tmp 62) (some (Go.Operand.tmp 65)) none none) 45 (.slice (some ⟨g, (i + 1) * 4, none⟩) ((n + 1) - (i + 1)) (c - (i + 1))) w] ⟨runs_slice_lB (i := (i + 1)) rfl rfl rfl rfl (by omega) (by omega) (by omega) (by omega), trivial⟩ ?_
 refine XL_overlaps (n := 1) (c := 1) 150 rfl rfl rfl overl_run Tryd.underlying45 rfl rfl hv hk hne (by omega) ?_
 refine xr0 1 [(68, .bool true)] [61, 66, 67] ?_
 refine nl (ct (sq (X_any [8] 9 #[false, false, false, false, false, false, false, false, false] (by kernel_rfl) (by kernel_rfl) (by kernel_rfl) (fun wd_33 hb_34 hh_35 => ?_))))
 refine XA_run (fuel' := 5) [0, 1, 2, 3] [(72, .eq (.int .i64 ((i : Int) + 1)))] [.slice (some ⟨g, 0, none⟩) (n + 1) c, .int .i64 (i : Int), .int .i64 1, .int .i64 ((i : Int) + 1)] #[true, true, true, true, false, false, false, false, false] [(0, .slice (some ⟨g, 0, none⟩) (n + 1) c), (1, .int .i64 (i : Int)), (2, .slice (some ⟨vb, 0, none⟩) 1 1), (69, .slice (some ⟨g, 0, none⟩) (n + 1) c), (72, .int .i64 ((i : Int) + 1))] [Value.int .i64 (IntKind.i64.wrap ((i : Int) + 1)) = Value.int .i64 ((i : Int) + 1)] (fun _ _ _ _ h => h) (by kernel_rfl) rfl ⟨wr_i64 (by omega) (by omega), trivial⟩ ?_
 refine XA_run (fuel' := 2) [4, 5, 6] [(73, .as (.slice (some ⟨g, (i + 1) * 4, none⟩) ((n + 1) - (i + 1)) (c - (i + 1))))] [.slice (some ⟨g, (i + 1) * 4, none⟩) ((n + 1) - (i + 1)) (c - (i + 1)), .slice (some ⟨g, 0, none⟩) (n + 1) c, .int .i64 (i : Int)] #[true, true, true, true, true, true, true, false, false] [(0, .slice (some ⟨g, 0, none⟩) (n + 1) c), (1, .int .i64 (i : Int)), (2, .slice (some ⟨vb, 0, none⟩) 1 1), (73, .slice (some ⟨g, (i + 1) * 4, none⟩) ((n + 1) - (i + 1)) (c - (i + 1))), (74, .slice (some ⟨g, 0, none⟩) (n + 1) c), (75, .int .i64 (i : Int))] [RunsAs Tryd.prog [(69, .slice (some ⟨g, 0, none⟩) (n + 1) c), (72, .int .i64 ((i : Int) + 1))] (Go.Op.slice 45 (Go.Operand.tmp 69) (some (Go.Operand.tmp 72)) none none) 45 (.slice (some ⟨g, (i + 1) * 4, none⟩) ((n + 1) - (i + 1)) (c - (i + 1))) wd_33] (fun _ _ _ _ h => h) (by kernel_rfl) rfl ⟨runs_slice_lB (i := (i + 1)) rfl rfl rfl rfl (by omega) (by omega) (by omega) (by omega), trivial⟩ ?_
 refine XA_run (fuel' := 1) [7] [(76, .as (.slice (some ⟨g, i * 4, none⟩) ((n + 1) - i) (c - i)))] [.slice (some ⟨g, i * 4, none⟩) ((n + 1) - i) (c - i)] #[true, true, true, true, true, true, true, true, false] [(0, .slice (some ⟨g, 0, none⟩) (n + 1) c), (1, .int .i64 (i : Int)), (2, .slice (some ⟨vb, 0, none⟩) 1 1), (73, .slice (some ⟨g, (i + 1) * 4, none⟩) ((n + 1) - (i + 1)) (c - (i + 1))), (76, .slice (some ⟨g, i * 4, none⟩) ((n + 1) - i) (c - i))] [RunsAs Tryd.prog [(74, .slice (some ⟨g, 0, none⟩) (n + 1) c), (75, .int .i64 (i : Int))] (Go.Op.slice 45 (Go.Operand.tmp 74) (some (Go.Operand.tmp 75)) none none) 45 (.slice (some ⟨g, i * 4, none⟩) ((n + 1) - i) (c - i)) wd_33] (fun _ _ _ _ h => h) (by kernel_rfl) rfl ⟨runs_slice_lB (i := i) rfl rfl rfl rfl (by omega) (by omega) (by omega) (by omega), trivial⟩ ?_
 refine XA_act (fuel' := 0) 8 #[true, true, true, true, true, true, true, true, true] _ rfl (by kernel_rfl) rfl (by kernel_rfl) rfl ?_
 obtain ⟨cur_40, hcur_40⟩ : ∃ c_, (cur.toList.take ((i + 1) * 4) ++ ((xs.drop i).flatMap atV) ++ cur.toList.drop ((i + 1) * 4 + ((xs.drop i).flatMap atV).length)) = c_ := ⟨_, rfl⟩
 refine XL_copyB (sz := 4) (sl := ((n + 1) - i)) (dl := ((n + 1) - (i + 1))) rfl rfl rfl ((xs.drop i).flatMap atV) cur_40 Tryd.underlying45 rfl rfl (Blk.below hk hb_34) (by first | (show 4 = min _ _ * 4; omega) | (rw [hD]; show _ = min _ _ * 4; omega)) (blk_src (Blk.below hk hb_34) hn ht (by omega)) (by first | (rw [hD]; omega) | (show _ + 4 ≤ _; omega)) flat_one hcur_40 (fun w_36 hg_37 hk_38 hz_39 => ?_)
 have hk_41 := Blk.ne (Blk.below hv hb_34) hg_37 (fun k_ e_ => by injection e_ with e_; subst e_; exact hne.symm)
 have hs_42 : cur_40.toArray.size = cur.size := by rw [← hcur_40]; exact splice_size _ _ _ (by first | (rw [hD]; omega) | (show _ + 4 ≤ _; omega))
 refine nl (XA_done (by kernel_rfl) ?_)
 refine sq (rg (xr0 2 [(78, .slice (some ⟨g, 0, none⟩) (n + 1) c), (79, nv i)] [1, 73, 76, 77] ?_))
 refine xr 2 [(80, .as (.slice (some ⟨g, i * 4, none⟩) ((n + 1) - i) (c - i)))] [(80, .slice (some ⟨g, i * 4, none⟩) ((n + 1) - i) (c - i)), (81, .slice (some ⟨vb, 0, none⟩) 1 1)] [2, 78, 79] [RunsAs Tryd.prog [(78, .slice (some ⟨g, 0, none⟩) (n + 1) c), (79, .int .i64 (i : Int))] (Go.Op.slice 45 (Go.Operand.tmp 78) (some (Go.Operand.tmp 79)) none none) 45 (.slice (some ⟨g, i * 4, none⟩) ((n + 1) - i) (c - i)) w_36] ⟨runs_slice_lB (i := i) rfl rfl rfl rfl (by omega) (by omega) (by omega) (by omega), trivial⟩ ?_
 obtain ⟨cur_47, hcur_47⟩ : ∃ c_, (cur_40.toArray.toList.take (i * 4) ++ (atV x) ++ cur_40.toArray.toList.drop (i * 4 + (atV x).length)) = c_ := ⟨_, rfl⟩
 refine XL_copyB (sz := 4) (sl := 1) (dl := ((n + 1) - i)) rfl rfl rfl (atV x) cur_47 Tryd.underlying45 rfl rfl hk_38 (by first | (show 4 = min _ _ * 4; omega) | (rw [hD]; show _ = min _ _ * 4; omega)) (hV _ hk_41) (by first | (rw [hD]; omega) | (show _ + 4 ≤ _; omega)) h1V hcur_47 (fun w_43 hg_44 hk_45 hz_46 => ?_)
 have hk_48 := Blk.ne hk_41 hg_44 (fun k_ e_ => by injection e_ with e_; subst e_; exact hne.symm)
 have hs_49 : cur_47.toArray.size = cur_40.toArray.size := by rw [← hcur_47]; exact splice_size _ _ _ (by first | (rw [hD]; omega) | (show _ + 4 ≤ _; omega))
 refine nl (sq (rg (xe0 2 [(6, .slice (some ⟨g, 0, none⟩) (n + 1) c)] ?_)))
 refine nl (X_ret (rk [.slice (some ⟨g, 0, none⟩) (n + 1) c] (hR_ _ _ ?_)))
 refine ⟨_, c, _, rfl, hk_45, by omega, hm, by rw [hs_49, hs_42, hs], ?_, (World.grownBy.trans (World.grownBy.trans (World.grownBy.trans (World.grownBy.refl _ _) (grown_of_below hb_34 _)) hg_37) hg_44), .inl rfl⟩
 exact insB hn hi (by rw [Array.length_toList]; omega) hci rfl hcur_40 hcur_47
end Go.Proofs.YtkehomiogkoomaaDoor
