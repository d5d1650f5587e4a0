import Derived.Test.YtgphmfnkeolbcaaDoorPel
import Derived.Test.YtgphmfnkeolbcaaDoorIn
/- What walk.Each goes over. Conditions: sizes, the tables of utf8, the errors' variables. -/

set_option linter.unusedVariables false
set_option linter.unusedSimpArgs false
set_option maxRecDepth 100000
namespace Go.Proofs.YtgphmfnkeolbcaaDoor
open Go Go.RowKit Go.Proofs.YtgphmfnkeolbcaaDoorW.PrintWords RX
theorem ent49 : Ent Tryd.prog 49 := ent_of Tryd.func49 (by kernel_rfl) rfl
theorem ent70 : Ent Tryd.prog 70 := ent_of Tryd.func70 (by kernel_rfl) rfl
theorem weach_any (d : Nat) (w : World) : Calls Tryd.prog 49 #[.pointer (some ⟨d, 0, none⟩)] w fun e w' => ∃ g, e = .returned (.func (.func 70) #[] #[.pointer (some ⟨g, 0, none⟩)]) ∧ w.heap.size ≤ g ∧ RX.Blk w' g 25 #[.pointer (some ⟨d, 0, none⟩)] ∧ Below w.heap.size w w' := by
 refine RX.enter Tryd.func49 rfl 4 rfl [(0, .pointer (some ⟨d, 0, none⟩))] rfl (by kernel_rfl) (fun R_ hR_ => ?_)
 refine sq (rg (xwe 1 [] [(1, pw w.heap.size 0)] (w.alloc (.cells #[.pointer (some ⟨d, 0, none⟩)] 25)) [] trivial ?_))
 obtain ⟨w_1, hw_5, hb_2, hk_3, hz_4⟩ := new_world w #[.pointer (some ⟨d, 0, none⟩)] 25
 rw [hw_5]
 refine xr0 1 [] [] ?_
 refine nl (sq (rg (xe0 2 [(2, .func (.func 70) #[] #[pw w.heap.size 0])] ?_)))
 refine nl (X_ret (rk [.func (.func 70) #[] #[.pointer (some ⟨w.heap.size, 0, none⟩)]] (hR_ _ _ ?_)))
 exact ⟨_, rfl, (Nat.le_refl _), hk_3, hb_2⟩
set_option maxHeartbeats 1000000 in
theorem weach_seq (D : Nat → Prop) (g d : Nat) (xs : List OpA) (wo w1 : World) (hd : DeltaC w1 d xs) (hb : badE xs = 0) (hn : xs.length ≤ 1100000) (hz : ∀ i, i < xs.length → opSz (xs.getD i op0)) (hwo : ∀ k, k < wo.heap.size → D k) (hD : ∀ k, D k → k < w1.heap.size) (hB : Below wo.heap.size wo w1) (hT : Tabs wo) (es : List Addr) (hE : ErrsO wo es) (hk : RX.Blk w1 g 25 #[.pointer (some ⟨d, 0, none⟩)]) :
  SeqM D Tryd.prog 70 #[.pointer (some ⟨g, 0, none⟩)] (fun x : PEl => #[x.val]) (fun ys => POK xs ys ∧ ys.length = xs.length) (fun pre => POK xs pre) (fun _ _ => True) xs.length w1 := by
 intro lp J Jx M0 W hW hJ hJx hMb hY jJ0
 have hJb : ∀ s M (X Y : World), Below X.heap.size X Y → J s M X → J s M Y := fun s M X Y hb hj => abides_below (hJ M) hb hj
 have hlm : (List.map pOf xs).length = xs.length := List.length_map ..
 refine callsIn_wide.2 ?_
 rw [show (#[Value.func (.yield lp) #[] #[]] ++ #[Value.pointer (some ⟨g, 0, none⟩)] : Array Value) = #[.func (.yield lp) #[] #[], .pointer (some ⟨g, 0, none⟩)] from rfl]
 refine RX.enter Tryd.func70 rfl 17 rfl [(0, .func (.yield lp) #[] #[]), (1, .pointer (some ⟨g, 0, none⟩))] rfl (by kernel_rfl) (fun R_ hR_ => ?_)
 refine sq (rg (xe 1 [(5, .load (.pointer (some ⟨d, 0, none⟩)))] [(0, .func (.yield lp) #[] #[]), (5, pw d 0)] [LoadsAs Tryd.prog 25 (⟨g, 0, none⟩) (.pointer (some ⟨d, 0, none⟩)) W] ⟨loads1 rfl (Blk.cell (Blk.below hk hW) 0 _ rfl), trivial⟩ ?_))
 refine xc 71 ent71 [.pointer (some ⟨d, 0, none⟩)] (dpieces_any d xs _ (hd.below hW) hb hn hz (hT.below (hB.trans (bel_lo2 hW hB.size))) es (hE.below (hB.trans (bel_lo2 hW hB.size)))) ?_
 rintro e w_4 ⟨A_1, c_2, rfl, hr_3, hb_5⟩; refine ⟨_, rfl, ?_⟩
 have hr9_ : kPiece.R 87 w_4 W.heap.size (fun k_ => W.heap.size ≤ k_ ∧ k_ < w_4.heap.size) (.slice A_1 (List.map pOf xs).length c_2) (List.map pOf xs) := Kd.R_mono (Kd.R_bound hr_3) (fun k_ hk_ => ⟨hk_.2.1, hk_.2.2.1⟩)
 refine xr0 2 [(6, .slice A_1 ((List.map pOf xs).length) c_2), (7, .int .i64 ((List.map pOf xs).length : Int)), (8, .int .i64 0)] [5] ?_
 refine nl (X_block ?_)
 have hlh_ : W.heap.size ≤ w_4.heap.size := (hb_5).size
 have hWl_ : W.heap.size ≤ W.heap.size := (Nat.le_refl _)
 refine X_loop (ι := Nat × List PEl × (Nat → Prop)) (fun ⟨i, pre, M⟩ => [(0, .func (.yield lp) #[] #[]), (6, .slice A_1 ((List.map pOf xs).length) c_2), (7, .int .i64 ((List.map pOf xs).length : Int)), (8, .int .i64 (i : Int))]) (fun ⟨i, pre, M⟩ wl => i ≤ xs.length ∧ pre.length = i ∧ POK xs pre ∧ J pre M wl ∧ (∀ k, M k → k < W.heap.size ∨ w_4.heap.size ≤ k) ∧ kPiece.R 87 wl W.heap.size (fun k_ => W.heap.size ≤ k_ ∧ k_ < w_4.heap.size) (.slice A_1 (List.map pOf xs).length c_2) (List.map pOf xs) ∧ w_4.heap.size ≤ wl.heap.size) (fun ⟨i, pre, M⟩ => xs.length - i) (0, [], M0) ⟨by omega, rfl, rfl, (hJb _ _ _ _ hb_5 jJ0), (fun k_ h_ => .inl (Nat.lt_of_lt_of_le (hMb _ _ _ jJ0 k_ h_).2 hWl_)), hr9_, (Nat.le_refl _)⟩ (by kernel_rfl) ?_
 rintro ⟨i, pre, M⟩ wl ⟨hi_, hpn, hpok, hJ1, hlo1, hr1, hhi1⟩
 refine sq (X_region ?_)
 by_cases c_6 : (i : Int) < ((List.map pOf xs).length : Int)
 ·refine xr 1 [(9, .eq (.bool true))] [(9, .bool true)] [] [Value.bool (decide ((i : Int) < ((List.map pOf xs).length : Int))) = Value.bool true] ⟨congrArg Value.bool (decide_eq_true (c_6)), trivial⟩ ?_
  refine nl (sq (ct (sk (sq (bk (sq (X_region ?_)))))))
  have hil_14 : i < xs.length := by omega
  obtain ⟨ad_7, cs_13, ha_8, hK_12, hc_9⟩ := Kd.atC (Kd.R_C hr1) piece0 (i := (i : Int)) (by omega) (by omega)
  rw [show (List.map pOf xs).getD (i : Int).toNat piece0 = pOf (xs.getD i op0) from map_getD pOf op0 piece0 hil_14] at hK_12
  obtain ⟨x_10, rfl, hx_11⟩ := pel_of hK_12 (badE_getD hb hil_14)
  replace hc_9 : CellsAt wl (ad_7.add ((i : Int).toNat * 1)) [x_10.val] := hc_9
  refine xr 3 [(10, .idx ad_7), (11, .load (x_10.val))] [(4, x_10.val)] [9] [A_1 = some ad_7, (0 : Int) ≤ (i : Int), (i : Int) < ((List.map pOf xs).length : Int), LoadsAs Tryd.prog 87 (ad_7.add ((i : Int).toNat * 1)) (x_10.val) wl] ⟨ha_8, (by omega), (by omega), loads1 rfl (elem_cell hc_9 0 _ rfl), trivial⟩ ?_
  refine nl (sq (X_regionI ?_))
  refine XLI_pre 2 (by kernel_rfl) (fun _ _ h_ => h_) ?_
  refine xr0 2 [(12, .func (.yield lp) #[] #[]), (13, x_10.val)] [4] ?_
  refine nl ?_
  have hjw_ := hJ1
  have hrw_ := hr1
  have hwl_ : wl.heap.size ≤ wl.heap.size := (Nat.le_refl _)
  have hpok3_ := hpok.snoc (x := x_10) (by omega) (by rw [hpn]; exact hx_11)
  refine XLI_yield rfl rfl rfl rfl [x_10.val] (by kernel_rfl) (hY pre M x_10 _ hjw_ trivial (by omega)) ?_
  rintro e w_15 (⟨rfl, M3_, hJ3_, hK3_, hM3_⟩ | ⟨rfl, hJ3_⟩)
  ·refine ⟨_, rfl, ?_⟩
   have hpn3_ : (pre ++ [x_10]).length = i + 1 := by rw [List.length_append, List.length_singleton, hpn]
   have hlo3_ := new_apart hM3_ hlo1 (by omega)
   have hr3_ := hK3_.row hrw_ (fun k_ h1_ h2_ => by have := hlo1 k_ h2_; omega)
   have hhi3_ : w_4.heap.size ≤ w_15.heap.size := by have := hK3_.size; omega
   refine XLI_of (by kernel_rfl) (fun _ _ h_ => h_) ?_
   refine xr0 1 [(15, .bool false)] [12, 13, 14] ?_
   refine nl (cf (sk (rg (xr 2 [(16, .eq (.int .i64 ((i : Int) + 1)))] [(8, .int .i64 ((i : Int) + 1))] [15] [Value.int .i64 (IntKind.i64.wrap ((i : Int) + 1)) = Value.int .i64 ((i : Int) + 1)] ⟨wr_i64 (by omega) (by omega), trivial⟩ ?_))))
   refine nl ?_
   refine ⟨(i + 1, (pre ++ [x_10]), M3_), by kernel_rfl, ?_, ?_⟩
   ·exact ⟨by omega, hpn3_, hpok3_, hJ3_, hlo3_, hr3_, hhi3_⟩
   (try dsimp only); omega
  refine ⟨_, rfl, ?_⟩
  refine XLI_of (by kernel_rfl) (fun _ _ h_ => h_) ?_
  refine xr0 1 [(15, .bool true)] [12, 13, 14] ?_
  refine nl (ct (X_ret (rk [] (hR_ _ _ ?_))))
  exact ⟨⟨_, rfl⟩, .inr ⟨_, hpok3_, hJ3_⟩⟩
 refine xr 1 [(9, .eq (.bool false))] [(9, .bool false)] [] [Value.bool (decide ((i : Int) < ((List.map pOf xs).length : Int))) = Value.bool false] ⟨congrArg Value.bool (decide_eq_false (c_6)), trivial⟩ ?_
 refine nl (sq (cf (X_exit (ek [] (hR_ _ _ ?_)))))
 exact ⟨⟨_, rfl⟩, .inl ⟨pre, M, ⟨hpok, by omega⟩, hJ1⟩⟩
end Go.Proofs.YtgphmfnkeolbcaaDoor
/- Regions that draw their order, whose last operations change what the others look at. No condition. -/

set_option linter.unusedVariables false
set_option linter.unusedSimpArgs false
namespace Go.Proofs.YtgphmfnkeolbcaaDoor.RX
open Go Go.RowKit Go.Proofs.YtgphmfnkeolbcaaDoorW.PrintLast
section
variable {P : Program} {N : Nat} {ops : Array Oper} {S : World → Prop} {w : World} {ds : List Nat} {qs : QS} {l : Slots}
/-- one of the last comes up alone: what it does to the class is nobody's matter any more -/
theorem XG_last {fuel fuel' : Nat} {listed : Array Bool} (i : Nat) (listed' : Array Bool) (o : Oper) (h0 : ops[i]? = some o) (hr : Region.ready .any ops listed = [i]) (hl : listed.setIfInBounds i true = listed') (hf : fuel = fuel' + 1) (hd : i ∈ ds)
    (h : XL P N ops [o] (thenS (fun l' w' => XG P N ops S ds fuel' listed' qs l' w') qs) l w) : XG P N ops S ds fuel listed qs l w := by
  subst hf
  subst hl
  intro a ha
  refine wpAnyLast_all hr (by simp) fun j hj => ?_
  obtain rfl : j = i := by simpa using hj
  have h1 := h a ha
  unfold wpOp
  simp only [h0]
  have hm : ∀ a' w', lift N (thenS (fun l' w' => XG P N ops S ds fuel' (listed.setIfInBounds j true) qs l' w') qs) .normal a' w' →
      (j ∉ ds → S w → S w') ∧ wpAnyLast P .any ops (lift N qs) S ds fuel' (listed.setIfInBounds j true) a' w' := by
    rintro a' w' ⟨l', hl', hx⟩
    exact ⟨fun h_ => absurd hd h_, hx a' hl'⟩
  unfold wpList at h1
  split at h1
  · rename_i hw
    rw [if_pos hw]
    refine h1.imp (fun h1 => upon_Q (Q := lift N (thenS (fun l' w' => XG P N ops S ds fuel' (listed.setIfInBounds j true) qs l' w') qs)) (fun _ _ _ hx => hx) (fun hx => hx) (Oper.wp_mono (fun a' w' hx => hm a' w' hx) h1)) (fun h => h)
  · rename_i hw
    rw [if_neg hw]
    exact hm _ _ h1
end
end Go.Proofs.YtgphmfnkeolbcaaDoor.RX
