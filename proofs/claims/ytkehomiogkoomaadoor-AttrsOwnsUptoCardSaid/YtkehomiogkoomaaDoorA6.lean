import Derived.Test.YtkehomiogkoomaaDoorA5
import Derived.Test.YtkehomiogkoomaaDoorHand
/- What attrs.Compose, Apply, Diff, Invert and Transform answer. Conditions: lengths, the tables of utf8, Errs. -/
set_option linter.unusedVariables false
set_option linter.unusedSimpArgs false
set_option maxRecDepth 100000
namespace Go.Proofs.YtkehomiogkoomaaDoor
open Go Go.RowKit Go.Proofs.YtkehomiogkoomaaDoorW.PrintWords RX
theorem ent107 : Ent Tryd.prog 107 := ent_of Tryd.func107 (by kernel_rfl) rfl
theorem ent42 : Ent Tryd.prog 42 := ent_of Tryd.func42 (by kernel_rfl) rfl
theorem ent43 : Ent Tryd.prog 43 := ent_of Tryd.func43 (by kernel_rfl) rfl
theorem merge_le (a b : List At) : (merge a b).length ≤ a.length + b.length := by
 have h := comp_le (fun s => some (at0)) a b
 unfold comp at h
 rwa [List.length_filterMap_eq_countP, List.countP_eq_length.2 (by simp)] at h
theorem step_ne {xs ys : List At} {done rest : List (Option At × Option At)} {s : Option At × Option At} (he : done ++ s :: rest = merge xs ys) : s ≠ (none, none) :=
 merge_all (fun s => s ≠ (none, none)) xs ys (fun x _ e => by cases e) (fun y _ e => by cases e) (fun x _ y _ _ e => by cases e) s (by rw [← he]; simp)
theorem step_le {xs ys : List At} {done rest : List (Option At × Option At)} {s : Option At × Option At} (he : done ++ s :: rest = merge xs ys) (F : Option At × Option At → Option At) (hn : xs.length + ys.length ≤ 1000000000) : (done.filterMap F).length ≤ 1000000000 := by
 have h1 := merge_le xs ys
 rw [← he] at h1
 have h2 := List.length_filterMap_le F done
 simp only [List.length_append, List.length_cons] at h1
 omega
theorem step_snoc (F : Option At × Option At → Option At) (done : List (Option At × Option At)) (s : Option At × Option At) : (done ++ [s]).filterMap F = done.filterMap F ++ (F s).toList := by
 rw [List.filterMap_append]
 cases h : F s <;> simp [h]
theorem cmp1_step (w Wb W00 : World) (g2 : Nat) (h2 : g2 < Wb.heap.size) (hW : W00.heap.size ≤ g2) (hWb : W00.heap.size ≤ Wb.heap.size) (hB : Below W00.heap.size W00 w) (nulls : Bool) (g1 : Nat) (hne : g1 ≠ g2) (h1 : g1 < Wb.heap.size) (xs : List At) (hI : Blk w g1 4 #[.bool nulls] ∧ OutSt Wb g2 xs w) (hl : xs.length ≤ 1000000000)
  (s : Option At × Option At) (hs : s ≠ (none, none)) (px py : Value) (hpx : PtrTo w px s.1) (hpy : PtrTo w py s.2) :
  Calls Tryd.prog 153 #[.string (stepKey s), px, py, .pointer (some ⟨g1, 0, none⟩), .pointer (some ⟨g2, 0, none⟩)] w fun e w' => e = .returned (.tuple #[]) ∧ (Blk w' g1 4 #[.bool nulls] ∧ OutSt Wb g2 (xs ++ (cmpF nulls s).toList) w') ∧ Below W00.heap.size W00 w' := by
 obtain ⟨hb1, A, c, hb2, hr, hle⟩ := hI
 match s, hs, hpx, hpy with
 | (none, none), hs, _, _ => exact absurd rfl hs
 | (some x, none), _, hpx, hpy =>
  obtain ⟨ax, rfl, hax⟩ := hpx
  obtain rfl : py = .pointer none := hpy
  exact (cmp1_x w Wb W00 g2 h2 hW hWb hB nulls g1 hne h1 hb1 x ax hax A c xs hb2 hr hle hl).mono fun e w' h => ⟨h.1, ⟨h.2.1, h.2.2.1⟩, h.2.2.2⟩
 | (none, some y), _, hpx, hpy =>
  obtain rfl : px = .pointer none := hpx
  obtain ⟨ay, rfl, hay⟩ := hpy
  exact (cmp1_y w Wb W00 g2 h2 hW hWb hB nulls g1 hne h1 hb1 y ay hay A c xs hb2 hr hle hl).mono fun e w' h => ⟨h.1, ⟨h.2.1, h.2.2.1⟩, h.2.2.2⟩
 | (some x, some y), _, hpx, hpy =>
  obtain ⟨ax, rfl, hax⟩ := hpx
  obtain ⟨ay, rfl, hay⟩ := hpy
  exact (cmp1_xy w Wb W00 g2 h2 hW hWb hB nulls g1 hne h1 hb1 x ax hax y ay hay A c xs hb2 hr hle hl).mono fun e w' h => ⟨h.1, ⟨h.2.1, h.2.2.1⟩, h.2.2.2⟩
theorem trn1_step (w Wb W00 : World) (g2 : Nat) (h2 : g2 < Wb.heap.size) (hW : W00.heap.size ≤ g2) (hWb : W00.heap.size ≤ Wb.heap.size) (hB : Below W00.heap.size W00 w) (first : Bool) (g1 : Nat) (hne : g1 ≠ g2) (h1 : g1 < Wb.heap.size) (xs : List At) (hI : Blk w g1 4 #[.bool first] ∧ OutSt Wb g2 xs w) (hl : xs.length ≤ 1000000000)
  (s : Option At × Option At) (hs : s ≠ (none, none)) (px py : Value) (hpx : PtrTo w px s.1) (hpy : PtrTo w py s.2) :
  Calls Tryd.prog 110 #[.string (stepKey s), px, py, .pointer (some ⟨g1, 0, none⟩), .pointer (some ⟨g2, 0, none⟩)] w fun e w' => e = .returned (.tuple #[]) ∧ (Blk w' g1 4 #[.bool first] ∧ OutSt Wb g2 (xs ++ (trnF first s).toList) w') ∧ Below W00.heap.size W00 w' := by
 obtain ⟨hb1, A, c, hb2, hr, hle⟩ := hI
 match s, hs, hpx, hpy with
 | (none, none), hs, _, _ => exact absurd rfl hs
 | (some x, none), _, hpx, hpy =>
  obtain ⟨ax, rfl, hax⟩ := hpx
  obtain rfl : py = .pointer none := hpy
  exact (trn1_x w Wb W00 g2 h2 hW hWb hB first g1 hne h1 hb1 x ax hax A c xs hb2 hr hle hl).mono fun e w' h => ⟨h.1, ⟨h.2.1, h.2.2.1⟩, h.2.2.2⟩
 | (none, some y), _, hpx, hpy =>
  obtain rfl : px = .pointer none := hpx
  obtain ⟨ay, rfl, hay⟩ := hpy
  exact (trn1_y w Wb W00 g2 h2 hW hWb hB first g1 hne h1 hb1 y ay hay A c xs hb2 hr hle hl).mono fun e w' h => ⟨h.1, ⟨h.2.1, h.2.2.1⟩, h.2.2.2⟩
 | (some x, some y), _, hpx, hpy =>
  obtain ⟨ax, rfl, hax⟩ := hpx
  obtain ⟨ay, rfl, hay⟩ := hpy
  exact (trn1_xy w Wb W00 g2 h2 hW hWb hB first g1 hne h1 hb1 x ax hax y ay hay A c xs hb2 hr hle hl).mono fun e w' h => ⟨h.1, ⟨h.2.1, h.2.2.1⟩, h.2.2.2⟩
theorem composed_any (nulls : Bool) (A B : Option Addr) (c d : Nat) (xs ys : List At) (w : World) (hx : kAttr.C w A xs.length xs) (hy : kAttr.C w B ys.length ys) (hxc : xs.length ≤ c) (hyd : ys.length ≤ d) (hn : xs.length + ys.length ≤ 1000000000) : Calls Tryd.prog 108 #[.slice A xs.length c, .slice B ys.length d, .bool nulls] w fun e w' => ∃ A' c', e = .returned (.slice A' (comp (cmpF nulls) xs ys).length c') ∧ (comp (cmpF nulls) xs ys).length ≤ c' ∧ kAttr.R 71 w' w.heap.size (OkFrom w.heap.size) (.slice A' (comp (cmpF nulls) xs ys).length c') (comp (cmpF nulls) xs ys) ∧ Below w.heap.size w w' := by
 refine RX.enter Tryd.func108 rfl 13 rfl [(0, .slice A xs.length c), (1, .slice B ys.length d), (2, .bool nulls)] rfl (by kernel_rfl) (fun R_ hR_ => ?_)
 refine sq (rg (xwe 1 [] [(0, .slice A xs.length c), (1, .slice B ys.length d), (5, pw w.heap.size 0)] (w.alloc (.cells #[.bool nulls] 4)) [] trivial ?_))
 obtain ⟨w_1, hw_5, hb_2, hk_3, hz_4⟩ := new_world w #[.bool nulls] 4
 rw [hw_5]
 refine xr0 1 [] [] ?_
 refine nl (sq (rg (xw 1 [] [(7, pw w_1.heap.size 0)] [] (w_1.alloc (.cells #[.slice none 0 0] 45)) [] trivial ?_)))
 obtain ⟨w_6, hw_10, hb_7, hk_8, hz_9⟩ := new_world w_1 #[.slice none 0 0] 45
 rw [hw_10]
 refine nl (sq (rg (xr0 3 [(8, .slice A xs.length c), (9, .slice B ys.length d), (10, .func (.func 153) #[] #[pw w.heap.size 0, pw w_1.heap.size 0])] [0, 1, 5] ?_)))
 have hb_11 : Blk w_6 w_1.heap.size 45 #[.slice none 0 0] := hk_8
 have hb_12 : Blk w_6 w.heap.size 4 #[.bool nulls] := (Blk.below hk_3 hb_7)
 have hne_13 : w.heap.size ≠ w_1.heap.size := Nat.ne_of_lt (Blk.lt hk_3)
 refine xc 109 ent109 [.slice A xs.length c, .slice B ys.length d, .func (.func 153) #[] #[.pointer (some ⟨w.heap.size, 0, none⟩), .pointer (some ⟨w_1.heap.size, 0, none⟩)]] (both_any 153 #[.pointer (some ⟨w.heap.size, 0, none⟩), .pointer (some ⟨w_1.heap.size, 0, none⟩)] ent153 w A B c d xs ys hx hy hxc hyd (fun done w_ => Blk w_ w.heap.size 4 #[.bool nulls] ∧ OutSt w_6 w_1.heap.size (done.filterMap (cmpF nulls)) w_) (fun _ _ _ h hb => ⟨h.1.below hb, h.2.below hb⟩) (fun done s rest px py w1 he hpx hpy hI hB => by rw [step_snoc]; exact cmp1_step w1 w_6 w w_1.heap.size (Blk.lt hb_11) (hb_2).size ((bt hb_2 hb_7)).size hB nulls w.heap.size hne_13 (Blk.lt hb_12) _ hI (step_le he _ (by omega)) s (step_ne he) px py hpx hpy) w_6 (bt hb_2 hb_7) ⟨hb_12, none, 0, hb_11, Kd.R_nil _ _ _ _ _, Nat.le_refl _⟩) ?_
 rintro e w_14 ⟨rfl, hO_15, hB_16⟩; refine ⟨_, rfl, ?_⟩
 obtain ⟨A_17, c_18, hk_19, hr_20, hl_21⟩ : OutSt w_6 w_1.heap.size (comp (cmpF nulls) xs ys) w_14 := hO_15.2
 refine nl (sq (rg (xe 2 [(12, .load (.slice A_17 ((comp (cmpF nulls) xs ys).length) c_18))] [(6, .slice A_17 ((comp (cmpF nulls) xs ys).length) c_18)] [LoadsAs Tryd.prog 45 (⟨w_1.heap.size, 0, none⟩) (.slice A_17 ((comp (cmpF nulls) xs ys).length) c_18) w_14] ⟨loads1 rfl (Blk.cell hk_19 0 _ rfl), trivial⟩ ?_)))
 refine nl (X_ret (rk [.slice A_17 ((comp (cmpF nulls) xs ys).length) c_18] (hR_ _ _ ?_)))
 exact ⟨_, _, rfl, (RX.Kd.R_len hr_20).2, Kd.R_low hr_20 ((bt hb_2 hb_7)).size, hB_16⟩
def chk2 (na : Bool) (xs : List At) (nb : Bool) (ys : List At) : Nat := if chkA na xs = 0 then chkA nb ys else chkA na xs
theorem checked_any (na nb : Bool) (A B : Option Addr) (c d : Nat) (xs ys : List At) (w : World) (hx : kAttr.C w A xs.length xs) (hy : kAttr.C w B ys.length ys) (hxc : xs.length ≤ c) (hyd : ys.length ≤ d) (hn : xs.length + ys.length ≤ 1000000000) (hsx : ∀ i, i < xs.length → (xs.getD i at0).1.size ≤ 9223372036854775807 ∧ (xs.getD i at0).2.2.2.size ≤ 9223372036854775807) (hsy : ∀ i, i < ys.length → (ys.getD i at0).1.size ≤ 9223372036854775807 ∧ (ys.getD i at0).2.2.2.size ≤ 9223372036854775807) (hT : Tabs w) (es : List Addr) (hE : ErrsA w es) : Calls Tryd.prog 107 #[.slice A xs.length c, .bool na, .slice B ys.length d, .bool nb] w fun e w' => e = .returned (errV es (chk2 na xs nb ys)) ∧ Below w.heap.size w w' := by
 refine RX.enter Tryd.func107 rfl 19 rfl [(0, .slice A xs.length c), (1, .bool na), (2, .slice B ys.length d), (3, .bool nb)] rfl (by kernel_rfl) (fun R_ hR_ => ?_)
 refine sq (rg (xe0 1 [(0, .slice A xs.length c), (1, .bool na), (2, .slice B ys.length d), (3, .bool nb)] ?_))
 refine nl (sq (sq (rg (xr0 2 [(10, .slice A xs.length c), (11, .bool na)] [0, 1] ?_))))
 refine xc 32 ent32 [.slice A xs.length c, .bool na] (acheck_any A c xs na _ hx hsx (hT.below (Below.refl _ _)) es (hE.below (Below.refl _ _))) ?_
 rintro e w_1 ⟨rfl, hb_2⟩; refine ⟨_, rfl, ?_⟩
 refine xr0 1 [(9, errV es (chkA na xs))] [10, 11, 12] ?_
 refine nl (sq (rg (xr0 1 [(13, errV es (chkA na xs))] [] ?_)))
 by_cases c_3 : (chkA na xs) = 0
 ·rw [show errV es (chkA na xs) = .nilIface from by rw [c_3]; rfl]
  refine xr0 1 [(9, .nilIface), (14, .bool false)] [13] ?_
  refine nl (cf (sk (sq (rg (xe0 2 [(16, .slice B ys.length d), (17, .bool nb)] ?_)))))
  refine xc 32 ent32 [.slice B ys.length d, .bool nb] (acheck_any B d ys nb _ (Kd.C_below hy hb_2) hsy (hT.below hb_2) es (hE.below hb_2)) ?_
  rintro e w_4 ⟨rfl, hb_5⟩; refine ⟨_, rfl, ?_⟩
  refine xe0 1 [(8, errV es (chkA nb ys))] ?_
  refine nl (X_ret (rk [errV es (chkA nb ys)] (hR_ _ _ ?_)))
  rw [show chk2 na xs nb ys = chkA nb ys from if_pos c_3]
  exact ⟨rfl, (bt hb_2 hb_5)⟩
 rw [errV_pos es (chkA na xs) (Nat.pos_of_ne_zero c_3)]
 refine xr0 1 [(9, .iface 235 (.pointer (some (errAt es (chkA na xs))))), (14, .bool true)] [13] ?_
 refine nl (ct (sq (rg (xe0 2 [(8, .iface 235 (.pointer (some (errAt es (chkA na xs)))))] ?_))))
 refine nl (X_ret (rk [.iface 235 (.pointer (some (errAt es (chkA na xs))))] (hR_ _ _ ?_)))
 rw [show chk2 na xs nb ys = chkA na xs from if_neg c_3, errV_pos es _ (Nat.pos_of_ne_zero c_3)]
 exact ⟨rfl, hb_2⟩
def composeP (nulls : Bool) (xs ys : List At) : List At × Nat := if chk2 true xs true ys = 0 then ((comp (cmpF nulls) xs ys), 0) else ([], chk2 true xs true ys)
set_option maxHeartbeats 1000000 in
theorem composeP_any (nulls : Bool) (A B : Option Addr) (c d : Nat) (xs ys : List At) (w : World) (hx : kAttr.C w A xs.length xs) (hy : kAttr.C w B ys.length ys) (hxc : xs.length ≤ c) (hyd : ys.length ≤ d) (hn : xs.length + ys.length ≤ 400000000) (hsx : ∀ i, i < xs.length → (xs.getD i at0).1.size ≤ 9223372036854775807 ∧ (xs.getD i at0).2.2.2.size ≤ 9223372036854775807) (hsy : ∀ i, i < ys.length → (ys.getD i at0).1.size ≤ 9223372036854775807 ∧ (ys.getD i at0).2.2.2.size ≤ 9223372036854775807) (hT : Tabs w) (es : List Addr) (hE : ErrsA w es) : Calls Tryd.prog 42 #[.slice A xs.length c, .slice B ys.length d, .bool nulls] w fun e w' => ∃ A' c', e = .returned (.tuple #[.slice A' (composeP nulls xs ys).1.length c', errV es (composeP nulls xs ys).2]) ∧ (composeP nulls xs ys).1.length ≤ c' ∧ kAttr.R 71 w' w.heap.size (OkFrom w.heap.size) (.slice A' (composeP nulls xs ys).1.length c') (composeP nulls xs ys).1 ∧ Below w.heap.size w w' := by
 refine RX.enter Tryd.func42 rfl 19 rfl [(0, .slice A xs.length c), (1, .slice B ys.length d), (2, .bool nulls)] rfl (by kernel_rfl) (fun R_ hR_ => ?_)
 refine sq (rg (xe0 2 [(0, .slice A xs.length c), (1, .slice B ys.length d), (2, .bool nulls)] ?_))
 refine nl (sq (sq (rg (xr0 2 [(9, .slice A xs.length c), (10, .slice B ys.length d)] [] ?_))))
 refine xc 107 ent107 [.slice A xs.length c, .bool true, .slice B ys.length d, .bool true] (checked_any true true A B c d xs ys _ hx hy hxc hyd (by omega) hsx hsy (hT.below (Below.refl _ _)) es (hE.below (Below.refl _ _))) ?_
 rintro e w_1 ⟨rfl, hb_2⟩; refine ⟨_, rfl, ?_⟩
 refine xr0 1 [(8, errV es (chk2 true xs true ys))] [9, 10, 11] ?_
 refine nl (sq (rg (xr0 1 [(12, errV es (chk2 true xs true ys))] [] ?_)))
 by_cases c_3 : (chk2 true xs true ys) = 0
 ·rw [show errV es (chk2 true xs true ys) = .nilIface from by rw [c_3]; rfl]
  refine xr0 1 [(8, .nilIface), (13, .bool false)] [12] ?_
  refine nl (cf (sk (sq (rg (xe0 3 [(15, .slice A xs.length c), (16, .slice B ys.length d), (17, .bool nulls)] ?_)))))
  refine xc 108 ent108 [.slice A xs.length c, .slice B ys.length d, .bool nulls] (composed_any nulls A B c d xs ys _ (Kd.C_below hx hb_2) (Kd.C_below hy hb_2) hxc hyd (by omega)) ?_
  rintro e w_8 ⟨A_4, c_5, rfl, hl_6, hr_7, hb_9⟩; refine ⟨_, rfl, ?_⟩
  refine xe0 2 [(6, .slice A_4 ((comp (cmpF nulls) xs ys).length) c_5), (7, .nilIface)] ?_
  refine nl (X_ret (rk [.slice A_4 ((comp (cmpF nulls) xs ys).length) c_5, .nilIface] (hR_ _ _ ?_)))
  rw [show (composeP nulls xs ys) = ((comp (cmpF nulls) xs ys), 0) from if_pos c_3]
  exact ⟨_, _, rfl, (RX.Kd.R_len hr_7).2, Kd.R_low hr_7 (hb_2).size, (bt hb_2 hb_9)⟩
 rw [errV_pos es (chk2 true xs true ys) (Nat.pos_of_ne_zero c_3)]
 refine xr0 1 [(8, .iface 235 (.pointer (some (errAt es (chk2 true xs true ys))))), (13, .bool true)] [12] ?_
 refine nl (ct (sq (rg (xe0 3 [(6, .slice none 0 0), (7, .iface 235 (.pointer (some (errAt es (chk2 true xs true ys)))))] ?_))))
 refine nl (X_ret (rk [.slice none 0 0, .iface 235 (.pointer (some (errAt es (chk2 true xs true ys))))] (hR_ _ _ ?_)))
 rw [show (composeP nulls xs ys) = ([], chk2 true xs true ys) from if_neg c_3, errV_pos es _ (Nat.pos_of_ne_zero c_3)]
 exact ⟨none, 0, rfl, Nat.le_refl _, Kd.R_nil _ _ _ _ _, hb_2⟩
def transformP (first : Bool) (xs ys : List At) : List At × Nat := if chk2 true xs true ys = 0 then ((comp (trnF first) xs ys), 0) else ([], chk2 true xs true ys)
set_option maxHeartbeats 1000000 in
theorem transformP_any (first : Bool) (A B : Option Addr) (c d : Nat) (xs ys : List At) (w : World) (hx : kAttr.C w A xs.length xs) (hy : kAttr.C w B ys.length ys) (hxc : xs.length ≤ c) (hyd : ys.length ≤ d) (hn : xs.length + ys.length ≤ 400000000) (hsx : ∀ i, i < xs.length → (xs.getD i at0).1.size ≤ 9223372036854775807 ∧ (xs.getD i at0).2.2.2.size ≤ 9223372036854775807) (hsy : ∀ i, i < ys.length → (ys.getD i at0).1.size ≤ 9223372036854775807 ∧ (ys.getD i at0).2.2.2.size ≤ 9223372036854775807) (hT : Tabs w) (es : List Addr) (hE : ErrsA w es) : Calls Tryd.prog 43 #[.slice A xs.length c, .slice B ys.length d, .bool first] w fun e w' => ∃ A' c', e = .returned (.tuple #[.slice A' (transformP first xs ys).1.length c', errV es (transformP first xs ys).2]) ∧ (transformP first xs ys).1.length ≤ c' ∧ kAttr.R 71 w' w.heap.size (OkFrom w.heap.size) (.slice A' (transformP first xs ys).1.length c') (transformP first xs ys).1 ∧ Below w.heap.size w w' := by
 refine RX.enter Tryd.func43 rfl 21 rfl [(0, .slice A xs.length c), (1, .slice B ys.length d), (2, .bool first)] rfl (by kernel_rfl) (fun R_ hR_ => ?_)
 refine sq (rg (xwe 1 [] [(0, .slice A xs.length c), (1, .slice B ys.length d), (5, pw w.heap.size 0)] (w.alloc (.cells #[.bool first] 4)) [] trivial ?_))
 obtain ⟨w_1, hw_5, hb_2, hk_3, hz_4⟩ := new_world w #[.bool first] 4
 rw [hw_5]
 refine xr0 2 [] [] ?_
 refine nl (sq (sq (rg (xr0 2 [(10, .slice A xs.length c), (11, .slice B ys.length d)] [] ?_))))
 refine xc 107 ent107 [.slice A xs.length c, .bool true, .slice B ys.length d, .bool true] (checked_any true true A B c d xs ys _ (Kd.C_below hx hb_2) (Kd.C_below hy hb_2) hxc hyd (by omega) hsx hsy (hT.below hb_2) es (hE.below hb_2)) ?_
 rintro e w_6 ⟨rfl, hb_7⟩; refine ⟨_, rfl, ?_⟩
 refine xr0 1 [(8, errV es (chk2 true xs true ys))] [10, 11, 12] ?_
 refine nl (sq (rg (xr0 1 [(13, errV es (chk2 true xs true ys))] [] ?_)))
 by_cases c_8 : (chk2 true xs true ys) = 0
 ·rw [show errV es (chk2 true xs true ys) = .nilIface from by rw [c_8]; rfl]
  refine xr0 1 [(8, .nilIface), (14, .bool false)] [13] ?_
  refine nl (cf (sk (sq (rg (xwe 1 [] [(0, .slice A xs.length c), (1, .slice B ys.length d), (5, pw w.heap.size 0), (9, pw w_6.heap.size 0)] (w_6.alloc (.cells #[.slice none 0 0] 45)) [] trivial ?_)))))
  obtain ⟨w_9, hw_13, hb_10, hk_11, hz_12⟩ := new_world w_6 #[.slice none 0 0] 45
  rw [hw_13]
  refine nl (sq (rg (xr0 3 [(16, .slice A xs.length c), (17, .slice B ys.length d), (18, .func (.func 110) #[] #[pw w.heap.size 0, pw w_6.heap.size 0])] [0, 1, 5] ?_)))
  have hb_14 : Blk w_9 w_6.heap.size 45 #[.slice none 0 0] := hk_11
  have hb_15 : Blk w_9 w.heap.size 4 #[.bool first] := (Blk.below hk_3 (bt hb_7 hb_10))
  have hne_16 : w.heap.size ≠ w_6.heap.size := Nat.ne_of_lt (Blk.lt (Blk.below hk_3 hb_7))
  refine xc 109 ent109 [.slice A xs.length c, .slice B ys.length d, .func (.func 110) #[] #[.pointer (some ⟨w.heap.size, 0, none⟩), .pointer (some ⟨w_6.heap.size, 0, none⟩)]] (both_any 110 #[.pointer (some ⟨w.heap.size, 0, none⟩), .pointer (some ⟨w_6.heap.size, 0, none⟩)] ent110 w A B c d xs ys hx hy hxc hyd (fun done w_ => Blk w_ w.heap.size 4 #[.bool first] ∧ OutSt w_9 w_6.heap.size (done.filterMap (trnF first)) w_) (fun _ _ _ h hb => ⟨h.1.below hb, h.2.below hb⟩) (fun done s rest px py w1 he hpx hpy hI hB => by rw [step_snoc]; exact trn1_step w1 w_9 w w_6.heap.size (Blk.lt hb_14) ((bt hb_2 hb_7)).size ((bt (bt hb_2 hb_7) hb_10)).size hB first w.heap.size hne_16 (Blk.lt hb_15) _ hI (step_le he _ (by omega)) s (step_ne he) px py hpx hpy) w_9 (bt (bt hb_2 hb_7) hb_10) ⟨hb_15, none, 0, hb_14, Kd.R_nil _ _ _ _ _, Nat.le_refl _⟩) ?_
  rintro e w_17 ⟨rfl, hO_18, hB_19⟩; refine ⟨_, rfl, ?_⟩
  obtain ⟨A_20, c_21, hk_22, hr_23, hl_24⟩ : OutSt w_9 w_6.heap.size (comp (trnF first) xs ys) w_17 := hO_18.2
  refine nl (sq (rg (xe 3 [(20, .load (.slice A_20 ((comp (trnF first) xs ys).length) c_21))] [(6, .slice A_20 ((comp (trnF first) xs ys).length) c_21), (7, .nilIface)] [LoadsAs Tryd.prog 45 (⟨w_6.heap.size, 0, none⟩) (.slice A_20 ((comp (trnF first) xs ys).length) c_21) w_17] ⟨loads1 rfl (Blk.cell hk_22 0 _ rfl), trivial⟩ ?_)))
  refine nl (X_ret (rk [.slice A_20 ((comp (trnF first) xs ys).length) c_21, .nilIface] (hR_ _ _ ?_)))
  rw [show (transformP first xs ys) = ((comp (trnF first) xs ys), 0) from if_pos c_8]
  exact ⟨_, _, rfl, (RX.Kd.R_len hr_23).2, Kd.R_low hr_23 ((bt (bt hb_2 hb_7) hb_10)).size, hB_19⟩
 rw [errV_pos es (chk2 true xs true ys) (Nat.pos_of_ne_zero c_8)]
 refine xr0 1 [(8, .iface 235 (.pointer (some (errAt es (chk2 true xs true ys))))), (14, .bool true)] [13] ?_
 refine nl (ct (sq (rg (xe0 3 [(6, .slice none 0 0), (7, .iface 235 (.pointer (some (errAt es (chk2 true xs true ys)))))] ?_))))
 refine nl (X_ret (rk [.slice none 0 0, .iface 235 (.pointer (some (errAt es (chk2 true xs true ys))))] (hR_ _ _ ?_)))
 rw [show (transformP first xs ys) = ([], chk2 true xs true ys) from if_neg c_8, errV_pos es _ (Nat.pos_of_ne_zero c_8)]
 exact ⟨none, 0, rfl, Nat.le_refl _, Kd.R_nil _ _ _ _ _, (bt hb_2 hb_7)⟩
end Go.Proofs.YtkehomiogkoomaaDoor
