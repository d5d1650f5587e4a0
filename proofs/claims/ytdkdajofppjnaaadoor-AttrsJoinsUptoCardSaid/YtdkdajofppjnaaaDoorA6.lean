/- What attrs.Compose, Apply, Diff, Invert and Transform answer. Conditions: lengths, the tables of utf8, Errs. -/
import Derived.Test.YtdkdajofppjnaaaDoorA5
import Derived.Test.YtdkdajofppjnaaaDoorPatch2
set_option linter.unusedVariables false
set_option linter.unusedSimpArgs false
set_option maxRecDepth 100000
namespace Go.Proofs.YtdkdajofppjnaaaDoor
open Go Go.RowKit Go.Proofs.YtdkdajofppjnaaaDoorW.PrintWords RX
theorem ent39 : Ent Tryd.prog 39 := ent_of Tryd.func39 (by kernel_rfl) rfl
theorem ent11 : Ent Tryd.prog 11 := ent_of Tryd.func11 (by kernel_rfl) rfl
theorem ent13 : Ent Tryd.prog 13 := ent_of Tryd.func13 (by kernel_rfl) rfl
theorem ent15 : Ent Tryd.prog 15 := ent_of Tryd.func15 (by kernel_rfl) rfl
theorem ent16 : Ent Tryd.prog 16 := ent_of Tryd.func16 (by kernel_rfl) rfl
theorem ent14 : Ent Tryd.prog 14 := ent_of Tryd.func14 (by kernel_rfl) rfl
theorem merge_le (a b : List At) : (merge a b).length ≤ a.length + b.length := by
  have h := comp_le (fun s => some (at0)) a b
  unfold comp at h
  rwa [List.length_filterMap_eq_countP, List.countP_eq_length.2 (by simp)] at h
theorem step_ne {xs ys : List At} {done rest : List (Option At × Option At)} {s : Option At × Option At} (he : done ++ s :: rest = merge xs ys) : s ≠ (none, none) :=
  merge_all (fun s => s ≠ (none, none)) xs ys (fun x _ e => by cases e) (fun y _ e => by cases e) (fun x _ y _ _ e => by cases e) s (by rw [← he]; simp)
theorem step_le {xs ys : List At} {done rest : List (Option At × Option At)} {s : Option At × Option At} (he : done ++ s :: rest = merge xs ys) (F : Option At × Option At → Option At) (hn : xs.length + ys.length ≤ 1000000000) : (done.filterMap F).length ≤ 1000000000 := by
  have h1 := merge_le xs ys
  rw [← he] at h1
  have h2 := List.length_filterMap_le F done
  simp only [List.length_append, List.length_cons] at h1
  omega
theorem step_snoc (F : Option At × Option At → Option At) (done : List (Option At × Option At)) (s : Option At × Option At) : (done ++ [s]).filterMap F = done.filterMap F ++ (F s).toList := by
  rw [List.filterMap_append]
  cases h : F s <;> simp [h]
theorem cmp1_step (w Wb W00 : World) (g2 : Nat) (h2 : g2 < Wb.heap.size) (hW : W00.heap.size ≤ g2) (hWb : W00.heap.size ≤ Wb.heap.size) (hB : Below W00.heap.size W00 w) (nulls : Bool) (g1 : Nat) (hne : g1 ≠ g2) (h1 : g1 < Wb.heap.size) (xs : List At) (hI : Blk w g1 4 #[.bool nulls] ∧ OutSt Wb g2 xs w) (hl : xs.length ≤ 1000000000)
    (s : Option At × Option At) (hs : s ≠ (none, none)) (px py : Value) (hpx : PtrTo w px s.1) (hpy : PtrTo w py s.2) :
    Calls Tryd.prog 62 #[.string (stepKey s), px, py, .pointer (some ⟨g1, 0, none⟩), .pointer (some ⟨g2, 0, none⟩)] w fun e w' => e = .returned (.tuple #[]) ∧ (Blk w' g1 4 #[.bool nulls] ∧ OutSt Wb g2 (xs ++ (cmpF nulls s).toList) w') ∧ Below W00.heap.size W00 w' := by
  obtain ⟨hb1, A, c, hb2, hr, hle⟩ := hI
  match s, hs, hpx, hpy with
  | (none, none), hs, _, _ => exact absurd rfl hs
  | (some x, none), _, hpx, hpy =>
    obtain ⟨ax, rfl, hax⟩ := hpx
    obtain rfl : py = .pointer none := hpy
    exact (cmp1_x w Wb W00 g2 h2 hW hWb hB nulls g1 hne h1 hb1 x ax hax A c xs hb2 hr hle hl).mono fun e w' h => ⟨h.1, ⟨h.2.1, h.2.2.1⟩, h.2.2.2⟩
  | (none, some y), _, hpx, hpy =>
    obtain rfl : px = .pointer none := hpx
    obtain ⟨ay, rfl, hay⟩ := hpy
    exact (cmp1_y w Wb W00 g2 h2 hW hWb hB nulls g1 hne h1 hb1 y ay hay A c xs hb2 hr hle hl).mono fun e w' h => ⟨h.1, ⟨h.2.1, h.2.2.1⟩, h.2.2.2⟩
  | (some x, some y), _, hpx, hpy =>
    obtain ⟨ax, rfl, hax⟩ := hpx
    obtain ⟨ay, rfl, hay⟩ := hpy
    exact (cmp1_xy w Wb W00 g2 h2 hW hWb hB nulls g1 hne h1 hb1 x ax hax y ay hay A c xs hb2 hr hle hl).mono fun e w' h => ⟨h.1, ⟨h.2.1, h.2.2.1⟩, h.2.2.2⟩
theorem btw1_step (w Wb W00 : World) (g2 : Nat) (h2 : g2 < Wb.heap.size) (hW : W00.heap.size ≤ g2) (hWb : W00.heap.size ≤ Wb.heap.size) (hB : Below W00.heap.size W00 w) (xs : List At) (hI : OutSt Wb g2 xs w) (hl : xs.length ≤ 1000000000)
    (s : Option At × Option At) (hs : s ≠ (none, none)) (px py : Value) (hpx : PtrTo w px s.1) (hpy : PtrTo w py s.2) :
    Calls Tryd.prog 63 #[.string (stepKey s), px, py, .pointer (some ⟨g2, 0, none⟩)] w fun e w' => e = .returned (.tuple #[]) ∧ (OutSt Wb g2 (xs ++ (btwF s).toList) w') ∧ Below W00.heap.size W00 w' := by
  obtain ⟨A, c, hb2, hr, hle⟩ := hI
  match s, hs, hpx, hpy with
  | (none, none), hs, _, _ => exact absurd rfl hs
  | (some x, none), _, hpx, hpy =>
    obtain ⟨ax, rfl, hax⟩ := hpx
    obtain rfl : py = .pointer none := hpy
    exact (btw1_x w Wb W00 g2 h2 hW hWb hB x ax hax A c xs hb2 hr hle hl).mono fun e w' h => h
  | (none, some y), _, hpx, hpy =>
    obtain rfl : px = .pointer none := hpx
    obtain ⟨ay, rfl, hay⟩ := hpy
    exact (btw1_y w Wb W00 g2 h2 hW hWb hB y ay hay A c xs hb2 hr hle hl).mono fun e w' h => h
  | (some x, some y), _, hpx, hpy =>
    obtain ⟨ax, rfl, hax⟩ := hpx
    obtain ⟨ay, rfl, hay⟩ := hpy
    exact (btw1_xy w Wb W00 g2 h2 hW hWb hB x ax hax y ay hay A c xs hb2 hr hle hl).mono fun e w' h => h
theorem trn1_step (w Wb W00 : World) (g2 : Nat) (h2 : g2 < Wb.heap.size) (hW : W00.heap.size ≤ g2) (hWb : W00.heap.size ≤ Wb.heap.size) (hB : Below W00.heap.size W00 w) (first : Bool) (g1 : Nat) (hne : g1 ≠ g2) (h1 : g1 < Wb.heap.size) (xs : List At) (hI : Blk w g1 4 #[.bool first] ∧ OutSt Wb g2 xs w) (hl : xs.length ≤ 1000000000)
    (s : Option At × Option At) (hs : s ≠ (none, none)) (px py : Value) (hpx : PtrTo w px s.1) (hpy : PtrTo w py s.2) :
    Calls Tryd.prog 43 #[.string (stepKey s), px, py, .pointer (some ⟨g1, 0, none⟩), .pointer (some ⟨g2, 0, none⟩)] w fun e w' => e = .returned (.tuple #[]) ∧ (Blk w' g1 4 #[.bool first] ∧ OutSt Wb g2 (xs ++ (trnF first s).toList) w') ∧ Below W00.heap.size W00 w' := by
  obtain ⟨hb1, A, c, hb2, hr, hle⟩ := hI
  match s, hs, hpx, hpy with
  | (none, none), hs, _, _ => exact absurd rfl hs
  | (some x, none), _, hpx, hpy =>
    obtain ⟨ax, rfl, hax⟩ := hpx
    obtain rfl : py = .pointer none := hpy
    exact (trn1_x w Wb W00 g2 h2 hW hWb hB first g1 hne h1 hb1 x ax hax A c xs hb2 hr hle hl).mono fun e w' h => ⟨h.1, ⟨h.2.1, h.2.2.1⟩, h.2.2.2⟩
  | (none, some y), _, hpx, hpy =>
    obtain rfl : px = .pointer none := hpx
    obtain ⟨ay, rfl, hay⟩ := hpy
    exact (trn1_y w Wb W00 g2 h2 hW hWb hB first g1 hne h1 hb1 y ay hay A c xs hb2 hr hle hl).mono fun e w' h => ⟨h.1, ⟨h.2.1, h.2.2.1⟩, h.2.2.2⟩
  | (some x, some y), _, hpx, hpy =>
    obtain ⟨ax, rfl, hax⟩ := hpx
    obtain ⟨ay, rfl, hay⟩ := hpy
    exact (trn1_xy w Wb W00 g2 h2 hW hWb hB first g1 hne h1 hb1 x ax hax y ay hay A c xs hb2 hr hle hl).mono fun e w' h => ⟨h.1, ⟨h.2.1, h.2.2.1⟩, h.2.2.2⟩
theorem composed_any (nulls : Bool) (A B : Option Addr) (c d : Nat) (xs ys : List At) (w : World) (hx : kAttr.C w A xs.length xs) (hy : kAttr.C w B ys.length ys) (hxc : xs.length ≤ c) (hyd : ys.length ≤ d) (hn : xs.length + ys.length ≤ 1000000000) : Calls Tryd.prog 40 #[.slice A xs.length c, .slice B ys.length d, .bool nulls] w fun e w' => ∃ A' c', e = .returned (.slice A' (comp (cmpF nulls) xs ys).length c') ∧ (comp (cmpF nulls) xs ys).length ≤ c' ∧ kAttr.R 55 w' w.heap.size (OkFrom w.heap.size) (.slice A' (comp (cmpF nulls) xs ys).length c') (comp (cmpF nulls) xs ys) ∧ Below w.heap.size w w' := by
  refine RX.enter Tryd.func40 rfl 13 rfl [(0, .slice A xs.length c), (1, .slice B ys.length d), (2, .bool nulls)] rfl (by kernel_rfl) (fun R_ hR_ => ?_)
  refine X_seq ?_
  refine X_region ?_
  refine XL_run 1 [] [(0, .slice A xs.length c), (1, .slice B ys.length d), (5, .pointer (some ⟨w.heap.size, 0, none⟩))] (w.alloc (.cells #[.bool nulls] 4)) [] (by kernel_rfl) trivial ?_
  obtain ⟨w_1, hw_5, hb_2, hk_3, hz_4⟩ := new_world w #[.bool nulls] 4
  rw [hw_5]
  refine XL_run 1 [] [(0, .slice A xs.length c), (1, .slice B ys.length d), (5, .pointer (some ⟨w.heap.size, 0, none⟩))] w_1 [] (by kernel_rfl) trivial ?_
  refine XL_nil ?_
  refine X_seq ?_
  refine X_region ?_
  refine XL_run 1 [] [(0, .slice A xs.length c), (1, .slice B ys.length d), (5, .pointer (some ⟨w.heap.size, 0, none⟩)), (7, .pointer (some ⟨w_1.heap.size, 0, none⟩))] (w_1.alloc (.cells #[.slice none 0 0] 22)) [] (by kernel_rfl) trivial ?_
  obtain ⟨w_6, hw_10, hb_7, hk_8, hz_9⟩ := new_world w_1 #[.slice none 0 0] 22
  rw [hw_10]
  refine XL_nil ?_
  refine X_seq ?_
  refine X_region ?_
  refine XL_run 3 [] [(7, .pointer (some ⟨w_1.heap.size, 0, none⟩)), (8, .slice A xs.length c), (9, .slice B ys.length d), (10, .func (.func 62) #[] #[.pointer (some ⟨w.heap.size, 0, none⟩), .pointer (some ⟨w_1.heap.size, 0, none⟩)])] w_6 [] (by kernel_rfl) trivial ?_
  have hb_11 : Blk w_6 w_1.heap.size 22 #[.slice none 0 0] := hk_8
  have hb_12 : Blk w_6 w.heap.size 4 #[.bool nulls] := (Blk.below hk_3 hb_7)
  have hne_13 : w.heap.size ≠ w_1.heap.size := Nat.ne_of_lt (Blk.lt hk_3)
  refine XL_call 42 rfl rfl rfl ent42 [.slice A xs.length c, .slice B ys.length d, .func (.func 62) #[] #[.pointer (some ⟨w.heap.size, 0, none⟩), .pointer (some ⟨w_1.heap.size, 0, none⟩)]] (by kernel_rfl) (both_any 62 #[.pointer (some ⟨w.heap.size, 0, none⟩), .pointer (some ⟨w_1.heap.size, 0, none⟩)] ent62 w A B c d xs ys hx hy hxc hyd (fun done w_ => Blk w_ w.heap.size 4 #[.bool nulls] ∧ OutSt w_6 w_1.heap.size (done.filterMap (cmpF nulls)) w_) (fun _ _ _ h hb => ⟨h.1.below hb, h.2.below hb⟩) (fun done s rest px py w1 he hpx hpy hI hB => by rw [step_snoc]; exact cmp1_step w1 w_6 w w_1.heap.size (Blk.lt hb_11) (hb_2).size ((bt hb_2 hb_7)).size hB nulls w.heap.size hne_13 (Blk.lt hb_12) _ hI (step_le he _ (by omega)) s (step_ne he) px py hpx hpy) w_6 (bt hb_2 hb_7) ⟨hb_12, none, 0, hb_11, Kd.R_nil _ _ _ _ _, Nat.le_refl _⟩) ?_
  rintro e w_14 ⟨rfl, hO_15, hB_16⟩; refine ⟨_, rfl, ?_⟩
  obtain ⟨A_17, c_18, hk_19, hr_20, hl_21⟩ : OutSt w_6 w_1.heap.size (comp (cmpF nulls) xs ys) w_14 := hO_15.2
  refine XL_nil ?_
  refine X_seq ?_
  refine X_region ?_
  refine XL_run 2 [(12, .load (.slice A_17 ((comp (cmpF nulls) xs ys).length) c_18))] [(6, .slice A_17 ((comp (cmpF nulls) xs ys).length) c_18)] w_14 [LoadsAs Tryd.prog 22 (⟨w_1.heap.size, 0, none⟩) (.slice A_17 ((comp (cmpF nulls) xs ys).length) c_18) w_14] (by kernel_rfl) ⟨loads1 rfl (Blk.cell hk_19 0 _ rfl), trivial⟩ ?_
  refine XL_nil ?_
  refine X_ret ?_
  refine RX.ret_ok (P := Tryd.prog) (fn := Tryd.f40) (N := 13) (R := R_) [.slice A_17 ((comp (cmpF nulls) xs ys).length) c_18] (by kernel_rfl) (hR_ _ _ ?_)
  exact ⟨_, _, rfl, (RX.Kd.R_len hr_20).2, Kd.R_low hr_20 ((bt hb_2 hb_7)).size, hB_16⟩
theorem between_any (A B : Option Addr) (c d : Nat) (xs ys : List At) (w : World) (hx : kAttr.C w A xs.length xs) (hy : kAttr.C w B ys.length ys) (hxc : xs.length ≤ c) (hyd : ys.length ≤ d) (hn : xs.length + ys.length ≤ 1000000000) : Calls Tryd.prog 44 #[.slice A xs.length c, .slice B ys.length d] w fun e w' => ∃ A' c', e = .returned (.slice A' (comp btwF xs ys).length c') ∧ (comp btwF xs ys).length ≤ c' ∧ kAttr.R 55 w' w.heap.size (OkFrom w.heap.size) (.slice A' (comp btwF xs ys).length c') (comp btwF xs ys) ∧ Below w.heap.size w w' := by
  refine RX.enter Tryd.func44 rfl 11 rfl [(0, .slice A xs.length c), (1, .slice B ys.length d)] rfl (by kernel_rfl) (fun R_ hR_ => ?_)
  refine X_seq ?_
  refine X_region ?_
  refine XL_run 1 [] [(0, .slice A xs.length c), (1, .slice B ys.length d)] w [] (by kernel_rfl) trivial ?_
  refine XL_nil ?_
  refine X_seq ?_
  refine X_region ?_
  refine XL_run 1 [] [(0, .slice A xs.length c), (1, .slice B ys.length d), (5, .pointer (some ⟨w.heap.size, 0, none⟩))] (w.alloc (.cells #[.slice none 0 0] 22)) [] (by kernel_rfl) trivial ?_
  obtain ⟨w_1, hw_5, hb_2, hk_3, hz_4⟩ := new_world w #[.slice none 0 0] 22
  rw [hw_5]
  refine XL_nil ?_
  refine X_seq ?_
  refine X_region ?_
  refine XL_run 3 [] [(5, .pointer (some ⟨w.heap.size, 0, none⟩)), (6, .slice A xs.length c), (7, .slice B ys.length d), (8, .func (.func 63) #[] #[.pointer (some ⟨w.heap.size, 0, none⟩)])] w_1 [] (by kernel_rfl) trivial ?_
  have hb_6 : Blk w_1 w.heap.size 22 #[.slice none 0 0] := hk_3
  refine XL_call 42 rfl rfl rfl ent42 [.slice A xs.length c, .slice B ys.length d, .func (.func 63) #[] #[.pointer (some ⟨w.heap.size, 0, none⟩)]] (by kernel_rfl) (both_any 63 #[.pointer (some ⟨w.heap.size, 0, none⟩)] ent63 w A B c d xs ys hx hy hxc hyd (fun done w_ => OutSt w_1 w.heap.size (done.filterMap (btwF)) w_) (fun _ _ _ h hb => h.below hb) (fun done s rest px py w1 he hpx hpy hI hB => by rw [step_snoc]; exact btw1_step w1 w_1 w w.heap.size (Blk.lt hb_6) (Nat.le_refl _) (hb_2).size hB _ hI (step_le he _ (by omega)) s (step_ne he) px py hpx hpy) w_1 hb_2 ⟨none, 0, hb_6, Kd.R_nil _ _ _ _ _, Nat.le_refl _⟩) ?_
  rintro e w_7 ⟨rfl, hO_8, hB_9⟩; refine ⟨_, rfl, ?_⟩
  obtain ⟨A_10, c_11, hk_12, hr_13, hl_14⟩ : OutSt w_1 w.heap.size (comp (btwF) xs ys) w_7 := hO_8
  refine XL_nil ?_
  refine X_seq ?_
  refine X_region ?_
  refine XL_run 2 [(10, .load (.slice A_10 ((comp (btwF) xs ys).length) c_11))] [(4, .slice A_10 ((comp (btwF) xs ys).length) c_11)] w_7 [LoadsAs Tryd.prog 22 (⟨w.heap.size, 0, none⟩) (.slice A_10 ((comp (btwF) xs ys).length) c_11) w_7] (by kernel_rfl) ⟨loads1 rfl (Blk.cell hk_12 0 _ rfl), trivial⟩ ?_
  refine XL_nil ?_
  refine X_ret ?_
  refine RX.ret_ok (P := Tryd.prog) (fn := Tryd.f44) (N := 11) (R := R_) [.slice A_10 ((comp (btwF) xs ys).length) c_11] (by kernel_rfl) (hR_ _ _ ?_)
  exact ⟨_, _, rfl, (RX.Kd.R_len hr_13).2, Kd.R_low hr_13 (hb_2).size, hB_9⟩
def chk2 (na : Bool) (xs : List At) (nb : Bool) (ys : List At) : Nat := if chkA na xs = 0 then chkA nb ys else chkA na xs
theorem checked_any (na nb : Bool) (A B : Option Addr) (c d : Nat) (xs ys : List At) (w : World) (hx : kAttr.C w A xs.length xs) (hy : kAttr.C w B ys.length ys) (hxc : xs.length ≤ c) (hyd : ys.length ≤ d) (hn : xs.length + ys.length ≤ 1000000000) (hsx : ∀ i, i < xs.length → (xs.getD i at0).1.size ≤ 9223372036854775807 ∧ (xs.getD i at0).2.2.2.size ≤ 9223372036854775807) (hsy : ∀ i, i < ys.length → (ys.getD i at0).1.size ≤ 9223372036854775807 ∧ (ys.getD i at0).2.2.2.size ≤ 9223372036854775807) (hT : Tabs w) (es : List Addr) (hE : ErrsA w es) : Calls Tryd.prog 39 #[.slice A xs.length c, .bool na, .slice B ys.length d, .bool nb] w fun e w' => e = .returned (errV es (chk2 na xs nb ys)) ∧ Below w.heap.size w w' := by
  refine RX.enter Tryd.func39 rfl 19 rfl [(0, .slice A xs.length c), (1, .bool na), (2, .slice B ys.length d), (3, .bool nb)] rfl (by kernel_rfl) (fun R_ hR_ => ?_)
  refine X_seq ?_
  refine X_region ?_
  refine XL_run 1 [] [(0, .slice A xs.length c), (1, .bool na), (2, .slice B ys.length d), (3, .bool nb)] w [] (by kernel_rfl) trivial ?_
  refine XL_nil ?_
  refine X_seq ?_
  refine X_seq ?_
  refine X_region ?_
  refine XL_run 2 [] [(2, .slice B ys.length d), (3, .bool nb), (10, .slice A xs.length c), (11, .bool na)] w [] (by kernel_rfl) trivial ?_
  refine XL_call 10 rfl rfl rfl ent10 [.slice A xs.length c, .bool na] (by kernel_rfl) (acheck_any A c xs na _ hx hsx (hT.below (Below.refl _ _)) es (hE.below (Below.refl _ _))) ?_
  rintro e w_1 ⟨rfl, hb_2⟩; refine ⟨_, rfl, ?_⟩
  refine XL_run 1 [] [(2, .slice B ys.length d), (3, .bool nb), (9, errV es (chkA na xs))] w_1 [] (by kernel_rfl) trivial ?_
  refine XL_nil ?_
  refine X_seq ?_
  refine X_region ?_
  refine XL_run 1 [] [(2, .slice B ys.length d), (3, .bool nb), (9, errV es (chkA na xs)), (13, errV es (chkA na xs))] w_1 [] (by kernel_rfl) trivial ?_
  by_cases c_3 : (chkA na xs) = 0
  · rw [show errV es (chkA na xs) = .nilIface from by rw [c_3]; rfl]
    refine XL_run 1 [] [(2, .slice B ys.length d), (3, .bool nb), (9, .nilIface), (14, .bool false)] w_1 [] (by kernel_rfl) trivial ?_
    refine XL_nil ?_
    refine X_cond false rfl ?_
    refine X_skip ?_
    refine X_seq ?_
    refine X_region ?_
    refine XL_run 2 [] [(16, .slice B ys.length d), (17, .bool nb)] w_1 [] (by kernel_rfl) trivial ?_
    refine XL_call 10 rfl rfl rfl ent10 [.slice B ys.length d, .bool nb] (by kernel_rfl) (acheck_any B d ys nb _ (Kd.C_below hy hb_2) hsy (hT.below hb_2) es (hE.below hb_2)) ?_
    rintro e w_4 ⟨rfl, hb_5⟩; refine ⟨_, rfl, ?_⟩
    refine XL_run 1 [] [(8, errV es (chkA nb ys))] w_4 [] (by kernel_rfl) trivial ?_
    refine XL_nil ?_
    refine X_ret ?_
    refine RX.ret_ok (P := Tryd.prog) (fn := Tryd.f39) (N := 19) (R := R_) [errV es (chkA nb ys)] (by kernel_rfl) (hR_ _ _ ?_)
    rw [show chk2 na xs nb ys = chkA nb ys from if_pos c_3]
    exact ⟨rfl, (bt hb_2 hb_5)⟩
  · rw [errV_pos es (chkA na xs) (Nat.pos_of_ne_zero c_3)]
    refine XL_run 1 [] [(2, .slice B ys.length d), (3, .bool nb), (9, .iface 112 (.pointer (some (errAt es (chkA na xs))))), (14, .bool true)] w_1 [] (by kernel_rfl) trivial ?_
    refine XL_nil ?_
    refine X_cond true rfl ?_
    refine X_seq ?_
    refine X_region ?_
    refine XL_run 2 [] [(8, .iface 112 (.pointer (some (errAt es (chkA na xs)))))] w_1 [] (by kernel_rfl) trivial ?_
    refine XL_nil ?_
    refine X_ret ?_
    refine RX.ret_ok (P := Tryd.prog) (fn := Tryd.f39) (N := 19) (R := R_) [.iface 112 (.pointer (some (errAt es (chkA na xs))))] (by kernel_rfl) (hR_ _ _ ?_)
    rw [show chk2 na xs nb ys = chkA na xs from if_neg c_3, errV_pos es _ (Nat.pos_of_ne_zero c_3)]
    exact ⟨rfl, hb_2⟩
def composeP (nulls : Bool) (xs ys : List At) : List At × Nat := if chk2 true xs true ys = 0 then ((comp (cmpF nulls) xs ys), 0) else ([], chk2 true xs true ys)
set_option maxHeartbeats 1000000 in
theorem composeP_any (nulls : Bool) (A B : Option Addr) (c d : Nat) (xs ys : List At) (w : World) (hx : kAttr.C w A xs.length xs) (hy : kAttr.C w B ys.length ys) (hxc : xs.length ≤ c) (hyd : ys.length ≤ d) (hn : xs.length + ys.length ≤ 400000000) (hsx : ∀ i, i < xs.length → (xs.getD i at0).1.size ≤ 9223372036854775807 ∧ (xs.getD i at0).2.2.2.size ≤ 9223372036854775807) (hsy : ∀ i, i < ys.length → (ys.getD i at0).1.size ≤ 9223372036854775807 ∧ (ys.getD i at0).2.2.2.size ≤ 9223372036854775807) (hT : Tabs w) (es : List Addr) (hE : ErrsA w es) : Calls Tryd.prog 11 #[.slice A xs.length c, .slice B ys.length d, .bool nulls] w fun e w' => ∃ A' c', e = .returned (.tuple #[.slice A' (composeP nulls xs ys).1.length c', errV es (composeP nulls xs ys).2]) ∧ (composeP nulls xs ys).1.length ≤ c' ∧ kAttr.R 55 w' w.heap.size (OkFrom w.heap.size) (.slice A' (composeP nulls xs ys).1.length c') (composeP nulls xs ys).1 ∧ Below w.heap.size w w' := by
  refine RX.enter Tryd.func11 rfl 19 rfl [(0, .slice A xs.length c), (1, .slice B ys.length d), (2, .bool nulls)] rfl (by kernel_rfl) (fun R_ hR_ => ?_)
  refine X_seq ?_
  refine X_region ?_
  refine XL_run 2 [] [(0, .slice A xs.length c), (1, .slice B ys.length d), (2, .bool nulls)] w [] (by kernel_rfl) trivial ?_
  refine XL_nil ?_
  refine X_seq ?_
  refine X_seq ?_
  refine X_region ?_
  refine XL_run 2 [] [(0, .slice A xs.length c), (1, .slice B ys.length d), (2, .bool nulls), (9, .slice A xs.length c), (10, .slice B ys.length d)] w [] (by kernel_rfl) trivial ?_
  refine XL_call 39 rfl rfl rfl ent39 [.slice A xs.length c, .bool true, .slice B ys.length d, .bool true] (by kernel_rfl) (checked_any true true A B c d xs ys _ hx hy hxc hyd (by omega) hsx hsy (hT.below (Below.refl _ _)) es (hE.below (Below.refl _ _))) ?_
  rintro e w_1 ⟨rfl, hb_2⟩; refine ⟨_, rfl, ?_⟩
  refine XL_run 1 [] [(0, .slice A xs.length c), (1, .slice B ys.length d), (2, .bool nulls), (8, errV es (chk2 true xs true ys))] w_1 [] (by kernel_rfl) trivial ?_
  refine XL_nil ?_
  refine X_seq ?_
  refine X_region ?_
  refine XL_run 1 [] [(0, .slice A xs.length c), (1, .slice B ys.length d), (2, .bool nulls), (8, errV es (chk2 true xs true ys)), (12, errV es (chk2 true xs true ys))] w_1 [] (by kernel_rfl) trivial ?_
  by_cases c_3 : (chk2 true xs true ys) = 0
  · rw [show errV es (chk2 true xs true ys) = .nilIface from by rw [c_3]; rfl]
    refine XL_run 1 [] [(0, .slice A xs.length c), (1, .slice B ys.length d), (2, .bool nulls), (8, .nilIface), (13, .bool false)] w_1 [] (by kernel_rfl) trivial ?_
    refine XL_nil ?_
    refine X_cond false rfl ?_
    refine X_skip ?_
    refine X_seq ?_
    refine X_region ?_
    refine XL_run 3 [] [(15, .slice A xs.length c), (16, .slice B ys.length d), (17, .bool nulls)] w_1 [] (by kernel_rfl) trivial ?_
    refine XL_call 40 rfl rfl rfl ent40 [.slice A xs.length c, .slice B ys.length d, .bool nulls] (by kernel_rfl) (composed_any nulls A B c d xs ys _ (Kd.C_below hx hb_2) (Kd.C_below hy hb_2) hxc hyd (by omega)) ?_
    rintro e w_8 ⟨A_4, c_5, rfl, hl_6, hr_7, hb_9⟩; refine ⟨_, rfl, ?_⟩
    refine XL_run 2 [] [(6, .slice A_4 ((comp (cmpF nulls) xs ys).length) c_5), (7, .nilIface)] w_8 [] (by kernel_rfl) trivial ?_
    refine XL_nil ?_
    refine X_ret ?_
    refine RX.ret_ok (P := Tryd.prog) (fn := Tryd.f11) (N := 19) (R := R_) [.slice A_4 ((comp (cmpF nulls) xs ys).length) c_5, .nilIface] (by kernel_rfl) (hR_ _ _ ?_)
    rw [show (composeP nulls xs ys) = ((comp (cmpF nulls) xs ys), 0) from if_pos c_3]
    exact ⟨_, _, rfl, (RX.Kd.R_len hr_7).2, Kd.R_low hr_7 (hb_2).size, (bt hb_2 hb_9)⟩
  · rw [errV_pos es (chk2 true xs true ys) (Nat.pos_of_ne_zero c_3)]
    refine XL_run 1 [] [(0, .slice A xs.length c), (1, .slice B ys.length d), (2, .bool nulls), (8, .iface 112 (.pointer (some (errAt es (chk2 true xs true ys))))), (13, .bool true)] w_1 [] (by kernel_rfl) trivial ?_
    refine XL_nil ?_
    refine X_cond true rfl ?_
    refine X_seq ?_
    refine X_region ?_
    refine XL_run 3 [] [(6, .slice none 0 0), (7, .iface 112 (.pointer (some (errAt es (chk2 true xs true ys)))))] w_1 [] (by kernel_rfl) trivial ?_
    refine XL_nil ?_
    refine X_ret ?_
    refine RX.ret_ok (P := Tryd.prog) (fn := Tryd.f11) (N := 19) (R := R_) [.slice none 0 0, .iface 112 (.pointer (some (errAt es (chk2 true xs true ys))))] (by kernel_rfl) (hR_ _ _ ?_)
    rw [show (composeP nulls xs ys) = ([], chk2 true xs true ys) from if_neg c_3, errV_pos es _ (Nat.pos_of_ne_zero c_3)]
    exact ⟨none, 0, rfl, Nat.le_refl _, Kd.R_nil _ _ _ _ _, hb_2⟩
def applyP (xs ys : List At) : List At × Nat := if chk2 false xs true ys = 0 then ((comp (cmpF false) xs ys), 0) else ([], chk2 false xs true ys)
set_option maxHeartbeats 1000000 in
theorem applyP_any (A B : Option Addr) (c d : Nat) (xs ys : List At) (w : World) (hx : kAttr.C w A xs.length xs) (hy : kAttr.C w B ys.length ys) (hxc : xs.length ≤ c) (hyd : ys.length ≤ d) (hn : xs.length + ys.length ≤ 400000000) (hsx : ∀ i, i < xs.length → (xs.getD i at0).1.size ≤ 9223372036854775807 ∧ (xs.getD i at0).2.2.2.size ≤ 9223372036854775807) (hsy : ∀ i, i < ys.length → (ys.getD i at0).1.size ≤ 9223372036854775807 ∧ (ys.getD i at0).2.2.2.size ≤ 9223372036854775807) (hT : Tabs w) (es : List Addr) (hE : ErrsA w es) : Calls Tryd.prog 13 #[.slice A xs.length c, .slice B ys.length d] w fun e w' => ∃ A' c', e = .returned (.tuple #[.slice A' (applyP  xs ys).1.length c', errV es (applyP  xs ys).2]) ∧ (applyP  xs ys).1.length ≤ c' ∧ kAttr.R 55 w' w.heap.size (OkFrom w.heap.size) (.slice A' (applyP  xs ys).1.length c') (applyP  xs ys).1 ∧ Below w.heap.size w w' := by
  refine RX.enter Tryd.func13 rfl 16 rfl [(0, .slice A xs.length c), (1, .slice B ys.length d)] rfl (by kernel_rfl) (fun R_ hR_ => ?_)
  refine X_seq ?_
  refine X_region ?_
  refine XL_run 2 [] [(0, .slice A xs.length c), (1, .slice B ys.length d)] w [] (by kernel_rfl) trivial ?_
  refine XL_nil ?_
  refine X_seq ?_
  refine X_seq ?_
  refine X_region ?_
  refine XL_run 2 [] [(0, .slice A xs.length c), (1, .slice B ys.length d), (7, .slice A xs.length c), (8, .slice B ys.length d)] w [] (by kernel_rfl) trivial ?_
  refine XL_call 39 rfl rfl rfl ent39 [.slice A xs.length c, .bool false, .slice B ys.length d, .bool true] (by kernel_rfl) (checked_any false true A B c d xs ys _ hx hy hxc hyd (by omega) hsx hsy (hT.below (Below.refl _ _)) es (hE.below (Below.refl _ _))) ?_
  rintro e w_1 ⟨rfl, hb_2⟩; refine ⟨_, rfl, ?_⟩
  refine XL_run 1 [] [(0, .slice A xs.length c), (1, .slice B ys.length d), (6, errV es (chk2 false xs true ys))] w_1 [] (by kernel_rfl) trivial ?_
  refine XL_nil ?_
  refine X_seq ?_
  refine X_region ?_
  refine XL_run 1 [] [(0, .slice A xs.length c), (1, .slice B ys.length d), (6, errV es (chk2 false xs true ys)), (10, errV es (chk2 false xs true ys))] w_1 [] (by kernel_rfl) trivial ?_
  by_cases c_3 : (chk2 false xs true ys) = 0
  · rw [show errV es (chk2 false xs true ys) = .nilIface from by rw [c_3]; rfl]
    refine XL_run 1 [] [(0, .slice A xs.length c), (1, .slice B ys.length d), (6, .nilIface), (11, .bool false)] w_1 [] (by kernel_rfl) trivial ?_
    refine XL_nil ?_
    refine X_cond false rfl ?_
    refine X_skip ?_
    refine X_seq ?_
    refine X_region ?_
    refine XL_run 2 [] [(13, .slice A xs.length c), (14, .slice B ys.length d)] w_1 [] (by kernel_rfl) trivial ?_
    refine XL_call 40 rfl rfl rfl ent40 [.slice A xs.length c, .slice B ys.length d, .bool false] (by kernel_rfl) (composed_any false A B c d xs ys _ (Kd.C_below hx hb_2) (Kd.C_below hy hb_2) hxc hyd (by omega)) ?_
    rintro e w_8 ⟨A_4, c_5, rfl, hl_6, hr_7, hb_9⟩; refine ⟨_, rfl, ?_⟩
    refine XL_run 2 [] [(4, .slice A_4 ((comp (cmpF false) xs ys).length) c_5), (5, .nilIface)] w_8 [] (by kernel_rfl) trivial ?_
    refine XL_nil ?_
    refine X_ret ?_
    refine RX.ret_ok (P := Tryd.prog) (fn := Tryd.f13) (N := 16) (R := R_) [.slice A_4 ((comp (cmpF false) xs ys).length) c_5, .nilIface] (by kernel_rfl) (hR_ _ _ ?_)
    rw [show (applyP  xs ys) = ((comp (cmpF false) xs ys), 0) from if_pos c_3]
    exact ⟨_, _, rfl, (RX.Kd.R_len hr_7).2, Kd.R_low hr_7 (hb_2).size, (bt hb_2 hb_9)⟩
  · rw [errV_pos es (chk2 false xs true ys) (Nat.pos_of_ne_zero c_3)]
    refine XL_run 1 [] [(0, .slice A xs.length c), (1, .slice B ys.length d), (6, .iface 112 (.pointer (some (errAt es (chk2 false xs true ys))))), (11, .bool true)] w_1 [] (by kernel_rfl) trivial ?_
    refine XL_nil ?_
    refine X_cond true rfl ?_
    refine X_seq ?_
    refine X_region ?_
    refine XL_run 3 [] [(4, .slice none 0 0), (5, .iface 112 (.pointer (some (errAt es (chk2 false xs true ys)))))] w_1 [] (by kernel_rfl) trivial ?_
    refine XL_nil ?_
    refine X_ret ?_
    refine RX.ret_ok (P := Tryd.prog) (fn := Tryd.f13) (N := 16) (R := R_) [.slice none 0 0, .iface 112 (.pointer (some (errAt es (chk2 false xs true ys))))] (by kernel_rfl) (hR_ _ _ ?_)
    rw [show (applyP  xs ys) = ([], chk2 false xs true ys) from if_neg c_3, errV_pos es _ (Nat.pos_of_ne_zero c_3)]
    exact ⟨none, 0, rfl, Nat.le_refl _, Kd.R_nil _ _ _ _ _, hb_2⟩
def diffP (xs ys : List At) : List At × Nat := if chk2 false xs false ys = 0 then ((comp btwF xs ys), 0) else ([], chk2 false xs false ys)
set_option maxHeartbeats 1000000 in
theorem diffP_any (A B : Option Addr) (c d : Nat) (xs ys : List At) (w : World) (hx : kAttr.C w A xs.length xs) (hy : kAttr.C w B ys.length ys) (hxc : xs.length ≤ c) (hyd : ys.length ≤ d) (hn : xs.length + ys.length ≤ 400000000) (hsx : ∀ i, i < xs.length → (xs.getD i at0).1.size ≤ 9223372036854775807 ∧ (xs.getD i at0).2.2.2.size ≤ 9223372036854775807) (hsy : ∀ i, i < ys.length → (ys.getD i at0).1.size ≤ 9223372036854775807 ∧ (ys.getD i at0).2.2.2.size ≤ 9223372036854775807) (hT : Tabs w) (es : List Addr) (hE : ErrsA w es) : Calls Tryd.prog 15 #[.slice A xs.length c, .slice B ys.length d] w fun e w' => ∃ A' c', e = .returned (.tuple #[.slice A' (diffP  xs ys).1.length c', errV es (diffP  xs ys).2]) ∧ (diffP  xs ys).1.length ≤ c' ∧ kAttr.R 55 w' w.heap.size (OkFrom w.heap.size) (.slice A' (diffP  xs ys).1.length c') (diffP  xs ys).1 ∧ Below w.heap.size w w' := by
  refine RX.enter Tryd.func15 rfl 16 rfl [(0, .slice A xs.length c), (1, .slice B ys.length d)] rfl (by kernel_rfl) (fun R_ hR_ => ?_)
  refine X_seq ?_
  refine X_region ?_
  refine XL_run 2 [] [(0, .slice A xs.length c), (1, .slice B ys.length d)] w [] (by kernel_rfl) trivial ?_
  refine XL_nil ?_
  refine X_seq ?_
  refine X_seq ?_
  refine X_region ?_
  refine XL_run 2 [] [(0, .slice A xs.length c), (1, .slice B ys.length d), (7, .slice A xs.length c), (8, .slice B ys.length d)] w [] (by kernel_rfl) trivial ?_
  refine XL_call 39 rfl rfl rfl ent39 [.slice A xs.length c, .bool false, .slice B ys.length d, .bool false] (by kernel_rfl) (checked_any false false A B c d xs ys _ hx hy hxc hyd (by omega) hsx hsy (hT.below (Below.refl _ _)) es (hE.below (Below.refl _ _))) ?_
  rintro e w_1 ⟨rfl, hb_2⟩; refine ⟨_, rfl, ?_⟩
  refine XL_run 1 [] [(0, .slice A xs.length c), (1, .slice B ys.length d), (6, errV es (chk2 false xs false ys))] w_1 [] (by kernel_rfl) trivial ?_
  refine XL_nil ?_
  refine X_seq ?_
  refine X_region ?_
  refine XL_run 1 [] [(0, .slice A xs.length c), (1, .slice B ys.length d), (6, errV es (chk2 false xs false ys)), (10, errV es (chk2 false xs false ys))] w_1 [] (by kernel_rfl) trivial ?_
  by_cases c_3 : (chk2 false xs false ys) = 0
  · rw [show errV es (chk2 false xs false ys) = .nilIface from by rw [c_3]; rfl]
    refine XL_run 1 [] [(0, .slice A xs.length c), (1, .slice B ys.length d), (6, .nilIface), (11, .bool false)] w_1 [] (by kernel_rfl) trivial ?_
    refine XL_nil ?_
    refine X_cond false rfl ?_
    refine X_skip ?_
    refine X_seq ?_
    refine X_region ?_
    refine XL_run 2 [] [(13, .slice A xs.length c), (14, .slice B ys.length d)] w_1 [] (by kernel_rfl) trivial ?_
    refine XL_call 44 rfl rfl rfl ent44 [.slice A xs.length c, .slice B ys.length d] (by kernel_rfl) (between_any  A B c d xs ys _ (Kd.C_below hx hb_2) (Kd.C_below hy hb_2) hxc hyd (by omega)) ?_
    rintro e w_8 ⟨A_4, c_5, rfl, hl_6, hr_7, hb_9⟩; refine ⟨_, rfl, ?_⟩
    refine XL_run 2 [] [(4, .slice A_4 ((comp btwF xs ys).length) c_5), (5, .nilIface)] w_8 [] (by kernel_rfl) trivial ?_
    refine XL_nil ?_
    refine X_ret ?_
    refine RX.ret_ok (P := Tryd.prog) (fn := Tryd.f15) (N := 16) (R := R_) [.slice A_4 ((comp btwF xs ys).length) c_5, .nilIface] (by kernel_rfl) (hR_ _ _ ?_)
    rw [show (diffP  xs ys) = ((comp btwF xs ys), 0) from if_pos c_3]
    exact ⟨_, _, rfl, (RX.Kd.R_len hr_7).2, Kd.R_low hr_7 (hb_2).size, (bt hb_2 hb_9)⟩
  · rw [errV_pos es (chk2 false xs false ys) (Nat.pos_of_ne_zero c_3)]
    refine XL_run 1 [] [(0, .slice A xs.length c), (1, .slice B ys.length d), (6, .iface 112 (.pointer (some (errAt es (chk2 false xs false ys))))), (11, .bool true)] w_1 [] (by kernel_rfl) trivial ?_
    refine XL_nil ?_
    refine X_cond true rfl ?_
    refine X_seq ?_
    refine X_region ?_
    refine XL_run 3 [] [(4, .slice none 0 0), (5, .iface 112 (.pointer (some (errAt es (chk2 false xs false ys)))))] w_1 [] (by kernel_rfl) trivial ?_
    refine XL_nil ?_
    refine X_ret ?_
    refine RX.ret_ok (P := Tryd.prog) (fn := Tryd.f15) (N := 16) (R := R_) [.slice none 0 0, .iface 112 (.pointer (some (errAt es (chk2 false xs false ys))))] (by kernel_rfl) (hR_ _ _ ?_)
    rw [show (diffP  xs ys) = ([], chk2 false xs false ys) from if_neg c_3, errV_pos es _ (Nat.pos_of_ne_zero c_3)]
    exact ⟨none, 0, rfl, Nat.le_refl _, Kd.R_nil _ _ _ _ _, hb_2⟩
def invertP (xs ys : List At) : List At × Nat := if chk2 true xs false ys = 0 then ((comp btwF (comp (cmpF false) ys xs) ys), 0) else ([], chk2 true xs false ys)
set_option maxHeartbeats 1000000 in
theorem invertP_any (A B : Option Addr) (c d : Nat) (xs ys : List At) (w : World) (hx : kAttr.C w A xs.length xs) (hy : kAttr.C w B ys.length ys) (hxc : xs.length ≤ c) (hyd : ys.length ≤ d) (hn : xs.length + ys.length ≤ 400000000) (hsx : ∀ i, i < xs.length → (xs.getD i at0).1.size ≤ 9223372036854775807 ∧ (xs.getD i at0).2.2.2.size ≤ 9223372036854775807) (hsy : ∀ i, i < ys.length → (ys.getD i at0).1.size ≤ 9223372036854775807 ∧ (ys.getD i at0).2.2.2.size ≤ 9223372036854775807) (hT : Tabs w) (es : List Addr) (hE : ErrsA w es) : Calls Tryd.prog 16 #[.slice A xs.length c, .slice B ys.length d] w fun e w' => ∃ A' c', e = .returned (.tuple #[.slice A' (invertP  xs ys).1.length c', errV es (invertP  xs ys).2]) ∧ (invertP  xs ys).1.length ≤ c' ∧ kAttr.R 55 w' w.heap.size (OkFrom w.heap.size) (.slice A' (invertP  xs ys).1.length c') (invertP  xs ys).1 ∧ Below w.heap.size w w' := by
  refine RX.enter Tryd.func16 rfl 18 rfl [(0, .slice A xs.length c), (1, .slice B ys.length d)] rfl (by kernel_rfl) (fun R_ hR_ => ?_)
  refine X_seq ?_
  refine X_region ?_
  refine XL_run 2 [] [(0, .slice A xs.length c), (1, .slice B ys.length d)] w [] (by kernel_rfl) trivial ?_
  refine XL_nil ?_
  refine X_seq ?_
  refine X_seq ?_
  refine X_region ?_
  refine XL_run 2 [] [(0, .slice A xs.length c), (1, .slice B ys.length d), (7, .slice A xs.length c), (8, .slice B ys.length d)] w [] (by kernel_rfl) trivial ?_
  refine XL_call 39 rfl rfl rfl ent39 [.slice A xs.length c, .bool true, .slice B ys.length d, .bool false] (by kernel_rfl) (checked_any true false A B c d xs ys _ hx hy hxc hyd (by omega) hsx hsy (hT.below (Below.refl _ _)) es (hE.below (Below.refl _ _))) ?_
  rintro e w_1 ⟨rfl, hb_2⟩; refine ⟨_, rfl, ?_⟩
  refine XL_run 1 [] [(0, .slice A xs.length c), (1, .slice B ys.length d), (6, errV es (chk2 true xs false ys))] w_1 [] (by kernel_rfl) trivial ?_
  refine XL_nil ?_
  refine X_seq ?_
  refine X_region ?_
  refine XL_run 1 [] [(0, .slice A xs.length c), (1, .slice B ys.length d), (6, errV es (chk2 true xs false ys)), (10, errV es (chk2 true xs false ys))] w_1 [] (by kernel_rfl) trivial ?_
  by_cases c_3 : (chk2 true xs false ys) = 0
  · rw [show errV es (chk2 true xs false ys) = .nilIface from by rw [c_3]; rfl]
    refine XL_run 1 [] [(0, .slice A xs.length c), (1, .slice B ys.length d), (6, .nilIface), (11, .bool false)] w_1 [] (by kernel_rfl) trivial ?_
    refine XL_nil ?_
    refine X_cond false rfl ?_
    refine X_skip ?_
    refine X_seq ?_
    refine X_region ?_
    refine XL_run 2 [] [(1, .slice B ys.length d), (13, .slice B ys.length d), (14, .slice A xs.length c)] w_1 [] (by kernel_rfl) trivial ?_
    refine XL_call 40 rfl rfl rfl ent40 [.slice B ys.length d, .slice A xs.length c, .bool false] (by kernel_rfl) (composed_any false B A d c ys xs _ (Kd.C_below hy hb_2) (Kd.C_below hx hb_2) hyd hxc (by omega)) ?_
    rintro e w_8 ⟨A_4, c_5, rfl, hl_6, hr_7, hb_9⟩; refine ⟨_, rfl, ?_⟩
    refine XL_run 1 [] [(15, .slice A_4 ((comp (cmpF false) ys xs).length) c_5), (16, .slice B ys.length d)] w_8 [] (by kernel_rfl) trivial ?_
    refine XL_call 44 rfl rfl rfl ent44 [.slice A_4 ((comp (cmpF false) ys xs).length) c_5, .slice B ys.length d] (by kernel_rfl) (between_any  A_4 B c_5 d (comp (cmpF false) ys xs) ys _ (Kd.R_C hr_7) (Kd.C_below hy (bt hb_2 hb_9)) (RX.Kd.R_len hr_7).2 hyd (by have h1 := comp_le (cmpF false) ys xs; omega)) ?_
    rintro e w_14 ⟨A_10, c_11, rfl, hl_12, hr_13, hb_15⟩; refine ⟨_, rfl, ?_⟩
    refine XL_run 2 [] [(4, .slice A_10 ((comp btwF (comp (cmpF false) ys xs) ys).length) c_11), (5, .nilIface)] w_14 [] (by kernel_rfl) trivial ?_
    refine XL_nil ?_
    refine X_ret ?_
    refine RX.ret_ok (P := Tryd.prog) (fn := Tryd.f16) (N := 18) (R := R_) [.slice A_10 ((comp btwF (comp (cmpF false) ys xs) ys).length) c_11, .nilIface] (by kernel_rfl) (hR_ _ _ ?_)
    rw [show (invertP  xs ys) = ((comp btwF (comp (cmpF false) ys xs) ys), 0) from if_pos c_3]
    exact ⟨_, _, rfl, (RX.Kd.R_len hr_13).2, Kd.R_low hr_13 ((bt hb_2 hb_9)).size, (bt (bt hb_2 hb_9) hb_15)⟩
  · rw [errV_pos es (chk2 true xs false ys) (Nat.pos_of_ne_zero c_3)]
    refine XL_run 1 [] [(0, .slice A xs.length c), (1, .slice B ys.length d), (6, .iface 112 (.pointer (some (errAt es (chk2 true xs false ys))))), (11, .bool true)] w_1 [] (by kernel_rfl) trivial ?_
    refine XL_nil ?_
    refine X_cond true rfl ?_
    refine X_seq ?_
    refine X_region ?_
    refine XL_run 3 [] [(4, .slice none 0 0), (5, .iface 112 (.pointer (some (errAt es (chk2 true xs false ys)))))] w_1 [] (by kernel_rfl) trivial ?_
    refine XL_nil ?_
    refine X_ret ?_
    refine RX.ret_ok (P := Tryd.prog) (fn := Tryd.f16) (N := 18) (R := R_) [.slice none 0 0, .iface 112 (.pointer (some (errAt es (chk2 true xs false ys))))] (by kernel_rfl) (hR_ _ _ ?_)
    rw [show (invertP  xs ys) = ([], chk2 true xs false ys) from if_neg c_3, errV_pos es _ (Nat.pos_of_ne_zero c_3)]
    exact ⟨none, 0, rfl, Nat.le_refl _, Kd.R_nil _ _ _ _ _, hb_2⟩
def transformP (first : Bool) (xs ys : List At) : List At × Nat := if chk2 true xs true ys = 0 then ((comp (trnF first) xs ys), 0) else ([], chk2 true xs true ys)
set_option maxHeartbeats 1000000 in
theorem transformP_any (first : Bool) (A B : Option Addr) (c d : Nat) (xs ys : List At) (w : World) (hx : kAttr.C w A xs.length xs) (hy : kAttr.C w B ys.length ys) (hxc : xs.length ≤ c) (hyd : ys.length ≤ d) (hn : xs.length + ys.length ≤ 400000000) (hsx : ∀ i, i < xs.length → (xs.getD i at0).1.size ≤ 9223372036854775807 ∧ (xs.getD i at0).2.2.2.size ≤ 9223372036854775807) (hsy : ∀ i, i < ys.length → (ys.getD i at0).1.size ≤ 9223372036854775807 ∧ (ys.getD i at0).2.2.2.size ≤ 9223372036854775807) (hT : Tabs w) (es : List Addr) (hE : ErrsA w es) : Calls Tryd.prog 14 #[.slice A xs.length c, .slice B ys.length d, .bool first] w fun e w' => ∃ A' c', e = .returned (.tuple #[.slice A' (transformP first xs ys).1.length c', errV es (transformP first xs ys).2]) ∧ (transformP first xs ys).1.length ≤ c' ∧ kAttr.R 55 w' w.heap.size (OkFrom w.heap.size) (.slice A' (transformP first xs ys).1.length c') (transformP first xs ys).1 ∧ Below w.heap.size w w' := by
  refine RX.enter Tryd.func14 rfl 21 rfl [(0, .slice A xs.length c), (1, .slice B ys.length d), (2, .bool first)] rfl (by kernel_rfl) (fun R_ hR_ => ?_)
  refine X_seq ?_
  refine X_region ?_
  refine XL_run 1 [] [(0, .slice A xs.length c), (1, .slice B ys.length d), (5, .pointer (some ⟨w.heap.size, 0, none⟩))] (w.alloc (.cells #[.bool first] 4)) [] (by kernel_rfl) trivial ?_
  obtain ⟨w_1, hw_5, hb_2, hk_3, hz_4⟩ := new_world w #[.bool first] 4
  rw [hw_5]
  refine XL_run 2 [] [(0, .slice A xs.length c), (1, .slice B ys.length d), (5, .pointer (some ⟨w.heap.size, 0, none⟩))] w_1 [] (by kernel_rfl) trivial ?_
  refine XL_nil ?_
  refine X_seq ?_
  refine X_seq ?_
  refine X_region ?_
  refine XL_run 2 [] [(0, .slice A xs.length c), (1, .slice B ys.length d), (5, .pointer (some ⟨w.heap.size, 0, none⟩)), (10, .slice A xs.length c), (11, .slice B ys.length d)] w_1 [] (by kernel_rfl) trivial ?_
  refine XL_call 39 rfl rfl rfl ent39 [.slice A xs.length c, .bool true, .slice B ys.length d, .bool true] (by kernel_rfl) (checked_any true true A B c d xs ys _ (Kd.C_below hx hb_2) (Kd.C_below hy hb_2) hxc hyd (by omega) hsx hsy (hT.below hb_2) es (hE.below hb_2)) ?_
  rintro e w_6 ⟨rfl, hb_7⟩; refine ⟨_, rfl, ?_⟩
  refine XL_run 1 [] [(0, .slice A xs.length c), (1, .slice B ys.length d), (5, .pointer (some ⟨w.heap.size, 0, none⟩)), (8, errV es (chk2 true xs true ys))] w_6 [] (by kernel_rfl) trivial ?_
  refine XL_nil ?_
  refine X_seq ?_
  refine X_region ?_
  refine XL_run 1 [] [(0, .slice A xs.length c), (1, .slice B ys.length d), (5, .pointer (some ⟨w.heap.size, 0, none⟩)), (8, errV es (chk2 true xs true ys)), (13, errV es (chk2 true xs true ys))] w_6 [] (by kernel_rfl) trivial ?_
  by_cases c_8 : (chk2 true xs true ys) = 0
  · rw [show errV es (chk2 true xs true ys) = .nilIface from by rw [c_8]; rfl]
    refine XL_run 1 [] [(0, .slice A xs.length c), (1, .slice B ys.length d), (5, .pointer (some ⟨w.heap.size, 0, none⟩)), (8, .nilIface), (14, .bool false)] w_6 [] (by kernel_rfl) trivial ?_
    refine XL_nil ?_
    refine X_cond false rfl ?_
    refine X_skip ?_
    refine X_seq ?_
    refine X_region ?_
    refine XL_run 1 [] [(0, .slice A xs.length c), (1, .slice B ys.length d), (5, .pointer (some ⟨w.heap.size, 0, none⟩)), (9, .pointer (some ⟨w_6.heap.size, 0, none⟩))] (w_6.alloc (.cells #[.slice none 0 0] 22)) [] (by kernel_rfl) trivial ?_
    obtain ⟨w_9, hw_13, hb_10, hk_11, hz_12⟩ := new_world w_6 #[.slice none 0 0] 22
    rw [hw_13]
    refine XL_nil ?_
    refine X_seq ?_
    refine X_region ?_
    refine XL_run 3 [] [(9, .pointer (some ⟨w_6.heap.size, 0, none⟩)), (16, .slice A xs.length c), (17, .slice B ys.length d), (18, .func (.func 43) #[] #[.pointer (some ⟨w.heap.size, 0, none⟩), .pointer (some ⟨w_6.heap.size, 0, none⟩)])] w_9 [] (by kernel_rfl) trivial ?_
    have hb_14 : Blk w_9 w_6.heap.size 22 #[.slice none 0 0] := hk_11
    have hb_15 : Blk w_9 w.heap.size 4 #[.bool first] := (Blk.below hk_3 (bt hb_7 hb_10))
    have hne_16 : w.heap.size ≠ w_6.heap.size := Nat.ne_of_lt (Blk.lt (Blk.below hk_3 hb_7))
    refine XL_call 42 rfl rfl rfl ent42 [.slice A xs.length c, .slice B ys.length d, .func (.func 43) #[] #[.pointer (some ⟨w.heap.size, 0, none⟩), .pointer (some ⟨w_6.heap.size, 0, none⟩)]] (by kernel_rfl) (both_any 43 #[.pointer (some ⟨w.heap.size, 0, none⟩), .pointer (some ⟨w_6.heap.size, 0, none⟩)] ent43 w A B c d xs ys hx hy hxc hyd (fun done w_ => Blk w_ w.heap.size 4 #[.bool first] ∧ OutSt w_9 w_6.heap.size (done.filterMap (trnF first)) w_) (fun _ _ _ h hb => ⟨h.1.below hb, h.2.below hb⟩) (fun done s rest px py w1 he hpx hpy hI hB => by rw [step_snoc]; exact trn1_step w1 w_9 w w_6.heap.size (Blk.lt hb_14) ((bt hb_2 hb_7)).size ((bt (bt hb_2 hb_7) hb_10)).size hB first w.heap.size hne_16 (Blk.lt hb_15) _ hI (step_le he _ (by omega)) s (step_ne he) px py hpx hpy) w_9 (bt (bt hb_2 hb_7) hb_10) ⟨hb_15, none, 0, hb_14, Kd.R_nil _ _ _ _ _, Nat.le_refl _⟩) ?_
    rintro e w_17 ⟨rfl, hO_18, hB_19⟩; refine ⟨_, rfl, ?_⟩
    obtain ⟨A_20, c_21, hk_22, hr_23, hl_24⟩ : OutSt w_9 w_6.heap.size (comp (trnF first) xs ys) w_17 := hO_18.2
    refine XL_nil ?_
    refine X_seq ?_
    refine X_region ?_
    refine XL_run 3 [(20, .load (.slice A_20 ((comp (trnF first) xs ys).length) c_21))] [(6, .slice A_20 ((comp (trnF first) xs ys).length) c_21), (7, .nilIface)] w_17 [LoadsAs Tryd.prog 22 (⟨w_6.heap.size, 0, none⟩) (.slice A_20 ((comp (trnF first) xs ys).length) c_21) w_17] (by kernel_rfl) ⟨loads1 rfl (Blk.cell hk_22 0 _ rfl), trivial⟩ ?_
    refine XL_nil ?_
    refine X_ret ?_
    refine RX.ret_ok (P := Tryd.prog) (fn := Tryd.f14) (N := 21) (R := R_) [.slice A_20 ((comp (trnF first) xs ys).length) c_21, .nilIface] (by kernel_rfl) (hR_ _ _ ?_)
    rw [show (transformP first xs ys) = ((comp (trnF first) xs ys), 0) from if_pos c_8]
    exact ⟨_, _, rfl, (RX.Kd.R_len hr_23).2, Kd.R_low hr_23 ((bt (bt hb_2 hb_7) hb_10)).size, hB_19⟩
  · rw [errV_pos es (chk2 true xs true ys) (Nat.pos_of_ne_zero c_8)]
    refine XL_run 1 [] [(0, .slice A xs.length c), (1, .slice B ys.length d), (5, .pointer (some ⟨w.heap.size, 0, none⟩)), (8, .iface 112 (.pointer (some (errAt es (chk2 true xs true ys))))), (14, .bool true)] w_6 [] (by kernel_rfl) trivial ?_
    refine XL_nil ?_
    refine X_cond true rfl ?_
    refine X_seq ?_
    refine X_region ?_
    refine XL_run 3 [] [(6, .slice none 0 0), (7, .iface 112 (.pointer (some (errAt es (chk2 true xs true ys)))))] w_6 [] (by kernel_rfl) trivial ?_
    refine XL_nil ?_
    refine X_ret ?_
    refine RX.ret_ok (P := Tryd.prog) (fn := Tryd.f14) (N := 21) (R := R_) [.slice none 0 0, .iface 112 (.pointer (some (errAt es (chk2 true xs true ys))))] (by kernel_rfl) (hR_ _ _ ?_)
    rw [show (transformP first xs ys) = ([], chk2 true xs true ys) from if_neg c_8, errV_pos es _ (Nat.pos_of_ne_zero c_8)]
    exact ⟨none, 0, rfl, Nat.le_refl _, Kd.R_nil _ _ _ _ _, (bt hb_2 hb_7)⟩
end Go.Proofs.YtdkdajofppjnaaaDoor
