import Derived.Test.YtgphmfnkeolbcaaDoorT5
import Derived.Test.YtgphmfnkeolbcaaDoorB1
import Derived.Test.YtgphmfnkeolbcaaDoorO3
import Derived.Test.YtgphmfnkeolbcaaDoorAn2
import Derived.Test.YtgphmfnkeolbcaaDoorMk
import Derived.Test.YtgphmfnkeolbcaaDoorA2
import Derived.Test.YtgphmfnkeolbcaaDoorCls
/- Cells: what is checked, what is the same. Conditions: sizes, the tables of utf8, the errors' variables. -/
set_option linter.unusedVariables false
set_option linter.unusedSimpArgs false
set_option maxRecDepth 100000
namespace Go.Proofs.YtgphmfnkeolbcaaDoor
open Go Go.RowKit Go.Proofs.YtgphmfnkeolbcaaDoorW.PrintWords RX
theorem ent34 : Ent Tryd.prog 34 := ent_of Tryd.func34 (by kernel_rfl) rfl
theorem ent32 : Ent Tryd.prog 32 := ent_of Tryd.func32 (by kernel_rfl) rfl
theorem ent16 : Ent Tryd.prog 16 := ent_of Tryd.func16 (by kernel_rfl) rfl
theorem ent12 : Ent Tryd.prog 12 := ent_of Tryd.func12 (by kernel_rfl) rfl
theorem width0 (r : Int) : (U.widthP r : Int) = 0 ↔ ¬ U.vz r := by
 unfold U.widthP
 split
 ·rename_i h
  have := (U.enc_len r.toNat).1
  constructor
  ·intro h2; omega
  intro h2; exact absurd h h2
 rename_i h; exact ⟨fun _ => h, fun _ => rfl⟩
theorem ccheck9_any (c : CellA) (A : Option Addr) (k : Nat) (w : World) (hA : kAttr.C w A c.attrs.length c.attrs) (hz : B.cellSz c) (hT : Tabs w) (es : List Addr) (hE : ErrsO w es) : Calls Tryd.prog 34 #[.agg (c6A c (.slice A c.attrs.length k))] w fun e w' => e = .returned (errV es (B.cErr c)) ∧ Below w.heap.size w w' := by
 have hz1 := hz.1
 have hz2 := hz.2.1
 have hEA : ErrsA w es := hE.sub (by decide)
 refine RX.enter Tryd.func34 rfl 56 rfl [(0, .agg (c6A c (.slice A c.attrs.length k)))] rfl (by kernel_rfl) (fun R_ hR_ => ?_)
 refine sq (rg (xwe 1 [] [(1, pw w.heap.size 0)] (w.alloc (.cells (c6A c (.slice A c.attrs.length k)) 44)) [] trivial ?_))
 obtain ⟨w_1, hw_5, hb_2, hk_3, hz_4⟩ := new_world w (c6A c (.slice A c.attrs.length k)) 44
 rw [hw_5]
 refine xr0 1 [] [] ?_
 refine nl (sq (bk (sq (rg (xr 2 [(8, .load (.int .i32 c.rune))] [(8, .int .i32 c.rune)] [] [LoadsAs Tryd.prog 21 (⟨w.heap.size, 0, none⟩) (.int .i32 c.rune) w_1] ⟨loads1 rfl (Blk.cell hk_3 0 _ rfl), trivial⟩ ?_)))))
 by_cases c_6 : c.rune = (-1)
 ·refine xr 2 [(9, .eq (.bool true))] [(6, .bool true)] [8] [Value.bool (c.rune == (-1)) = Value.bool true] ⟨congrArg Value.bool (beq_iff_eq.2 (c_6)), trivial⟩ ?_
  refine nl (ct (sq (sq (rg (xr 2 [(11, .load (.string c.kind))] [(11, .string c.kind)] [6] [LoadsAs Tryd.prog 9 (⟨w.heap.size, 1, none⟩) (.string c.kind) w_1] ⟨loads1 rfl (Blk.cell hk_3 1 _ rfl), trivial⟩ ?_)))))
  by_cases c_7 : c.kind = (⟨#[]⟩ : ByteArray)
  ·refine xr 7 [(12, .eq (.bool true))] [(18, .bool true)] [11] [Value.bool (c.kind.toList == (⟨#[]⟩ : ByteArray).toList) = Value.bool true] ⟨congrArg Value.bool (strEqT (c_7)), trivial⟩ ?_
   refine nl (ct (sq (rg (xe 2 [(19, .load (.iface 164 (.pointer (some (errAt es 6)))))] [(2, .iface 164 (.pointer (some (errAt es 6))))] [LoadsAs Tryd.prog 30 (⟨7, 0, none⟩) (.iface 164 (.pointer (some (errAt es 6)))) w_1] ⟨loads1 rfl ((hb_2.cell (World.block_lt_of_cell? _ _ (hE.load 6 7 (by decide) (by decide) rfl))).trans (hE.load 6 7 (by decide) (by decide) rfl)), trivial⟩ ?_))))
   refine nl (X_ret (rk [.iface 164 (.pointer (some (errAt es 6)))] (hR_ _ _ ?_)))
   have hce : B.cErr c = 6 := by unfold B.cErr; rw [if_pos c_6]; exact if_pos (by first | exact .inl (by assumption) | exact .inr (by omega))
   rw [hce]
   exact ⟨rfl, hb_2⟩
  refine xr 5 [(12, .eq (.bool false)), (15, .load (.string c.kind))] [(13, .bool false), (16, .int .i64 (c.kind.size : Int))] [11] [Value.bool (c.kind.toList == (⟨#[]⟩ : ByteArray).toList) = Value.bool false, LoadsAs Tryd.prog 9 (⟨w.heap.size, 1, none⟩) (.string c.kind) w_1] ⟨congrArg Value.bool (strEqF (c_7)), loads1 rfl (Blk.cell hk_3 1 _ rfl), trivial⟩ ?_
  by_cases c_8 : (c.kind.size : Int) > 64
  ·refine xe 2 [(17, .eq (.bool true))] [(1, pw w.heap.size 0), (18, .bool true)] [Value.bool (decide ((c.kind.size : Int) > 64)) = Value.bool true] ⟨congrArg Value.bool (decide_eq_true (c_8)), trivial⟩ ?_
   refine nl (ct (sq (rg (xe 2 [(19, .load (.iface 164 (.pointer (some (errAt es 6)))))] [(2, .iface 164 (.pointer (some (errAt es 6))))] [LoadsAs Tryd.prog 30 (⟨7, 0, none⟩) (.iface 164 (.pointer (some (errAt es 6)))) w_1] ⟨loads1 rfl ((hb_2.cell (World.block_lt_of_cell? _ _ (hE.load 6 7 (by decide) (by decide) rfl))).trans (hE.load 6 7 (by decide) (by decide) rfl)), trivial⟩ ?_))))
   refine nl (X_ret (rk [.iface 164 (.pointer (some (errAt es 6)))] (hR_ _ _ ?_)))
   have hce : B.cErr c = 6 := by unfold B.cErr; rw [if_pos c_6]; exact if_pos (by first | exact .inl (by assumption) | exact .inr (by omega))
   rw [hce]
   exact ⟨rfl, hb_2⟩
  refine xe 2 [(17, .eq (.bool false))] [(1, pw w.heap.size 0), (18, .bool false)] [Value.bool (decide ((c.kind.size : Int) > 64)) = Value.bool false] ⟨congrArg Value.bool (decide_eq_false (c_8)), trivial⟩ ?_
  refine nl (cf (sk (sq (sq (rg (xr 2 [(22, .load (.string c.kind))] [(22, .string c.kind)] [18] [LoadsAs Tryd.prog 9 (⟨w.heap.size, 1, none⟩) (.string c.kind) w_1] ⟨loads1 rfl (Blk.cell hk_3 1 _ rfl), trivial⟩ ?_))))))
  refine xc 50 ent50 [.string c.kind] (scheck_any c.kind _ (by omega) (hT.below hb_2) es (hEA.below hb_2)) ?_
  rintro e w_9 ⟨rfl, hb_10⟩; refine ⟨_, rfl, ?_⟩
  refine xr0 5 [(4, errV es (if (uchk c.kind).2 then 0 else 1))] [22, 23] ?_
  refine nl (sq (rg (xr0 1 [(26, errV es (if (uchk c.kind).2 then 0 else 1))] [] ?_)))
  by_cases c_11 : (if (uchk c.kind).2 then 0 else 1) = 0
  ·rw [show errV es (if (uchk c.kind).2 then 0 else 1) = .nilIface from by rw [c_11]; rfl]
   refine xr0 1 [(4, .nilIface), (27, .bool false)] [26] ?_
   refine nl (cf (sk (sq (rg (xr 2 [(30, .load (.agg #[.int .i64 c.vk, .int .i64 c.vn, .string c.vt]))] [(30, .agg #[.int .i64 c.vk, .int .i64 c.vn, .string c.vt])] [4, 27] [LoadsAs Tryd.prog 41 (⟨w.heap.size, 2, none⟩) (.agg #[.int .i64 c.vk, .int .i64 c.vn, .string c.vt]) w_9] ⟨loadsB rfl rfl (Blk.below hk_3 hb_10) 2 ⟨by kernel_rfl, by kernel_rfl⟩, trivial⟩ ?_)))))
   refine xc 51 ent51 [.agg #[.int .i64 c.vk, .int .i64 c.vn, .string c.vt]] (vcheck_any c.vk c.vn c.vt _ (by omega) (hT.below (bt hb_2 hb_10)) es (hEA.below (bt hb_2 hb_10))) ?_
   rintro e w_12 ⟨rfl, hb_13⟩; refine ⟨_, rfl, ?_⟩
   refine xe0 1 [(1, pw w.heap.size 0), (5, errV es (plainErr c.vk c.vn c.vt))] ?_
   refine nl (sq (rg (xr0 1 [(32, errV es (plainErr c.vk c.vn c.vt))] [] ?_)))
   by_cases c_14 : (plainErr c.vk c.vn c.vt) = 0
   ·rw [show errV es (plainErr c.vk c.vn c.vt) = .nilIface from by rw [c_14]; rfl]
    refine xr0 1 [(5, .nilIface), (33, .bool false)] [32] ?_
    refine nl (cf (sk (sq (rg (xe 2 [(54, .load (.slice A c.attrs.length k))] [(54, .slice A c.attrs.length k)] [LoadsAs Tryd.prog 42 (⟨w.heap.size, 5, none⟩) (.slice A c.attrs.length k) w_12] ⟨loads1 rfl (Blk.cell (Blk.below hk_3 (bt hb_10 hb_13)) 5 _ rfl), trivial⟩ ?_)))))
    refine xc 54 ent54 [.slice A c.attrs.length k, .bool false] (acheck_any _ _ c.attrs false _ (Kd.C_below hA (bt (bt hb_2 hb_10) hb_13)) (fun i_ h_ => by have h2_ := hz.2.2.2 i_ h_; omega) (hT.below (bt (bt hb_2 hb_10) hb_13)) es (hEA.below (bt (bt hb_2 hb_10) hb_13))) ?_
    rintro e w_15 ⟨rfl, hb_16⟩; refine ⟨_, rfl, ?_⟩
    refine xe0 1 [(2, errV es (chkA false c.attrs))] ?_
    refine nl (X_ret (rk [errV es (chkA false c.attrs)] (hR_ _ _ ?_)))
    have hu : (uchk c.kind).2 = true := by cases hu_ : (uchk c.kind).2 with | true => rfl | false => rw [hu_] at c_11; cases c_11
    have hce : B.cErr c = chkA false c.attrs := by unfold B.cErr; rw [if_pos c_6]; rw [if_neg (fun h_ => by rcases h_ with h_ | h_; (· exact absurd h_ (by assumption)); (· omega))]; rw [if_neg (by rw [hu]; decide)]; exact if_neg (fun h_ => h_ c_14)
    rw [hce]
    exact ⟨rfl, (bt (bt (bt hb_2 hb_10) hb_13) hb_16)⟩
   rw [errV_pos es (plainErr c.vk c.vn c.vt) (Nat.pos_of_ne_zero c_14)]
   refine xr0 1 [(5, .iface 164 (.pointer (some (errAt es (plainErr c.vk c.vn c.vt))))), (33, .bool true)] [32] ?_
   refine nl (ct (sq (rg (xe0 2 [(2, .iface 164 (.pointer (some (errAt es (plainErr c.vk c.vn c.vt)))))] ?_))))
   refine nl (X_ret (rk [.iface 164 (.pointer (some (errAt es (plainErr c.vk c.vn c.vt))))] (hR_ _ _ ?_)))
   have hu : (uchk c.kind).2 = true := by cases hu_ : (uchk c.kind).2 with | true => rfl | false => rw [hu_] at c_11; cases c_11
   have hce : B.cErr c = plainErr c.vk c.vn c.vt := by unfold B.cErr; rw [if_pos c_6]; rw [if_neg (fun h_ => by rcases h_ with h_ | h_; (· exact absurd h_ (by assumption)); (· omega))]; rw [if_neg (by rw [hu]; decide)]; exact if_pos c_14
   rw [hce, errV_pos es _ (Nat.pos_of_ne_zero c_14)]
   exact ⟨rfl, (bt (bt hb_2 hb_10) hb_13)⟩
  rw [errV_pos es (if (uchk c.kind).2 then 0 else 1) (Nat.pos_of_ne_zero c_11)]
  refine xr0 1 [(4, .iface 164 (.pointer (some (errAt es (if (uchk c.kind).2 then 0 else 1))))), (27, .bool true)] [26] ?_
  refine nl (ct (sq (rg (xe0 2 [(2, .iface 164 (.pointer (some (errAt es (if (uchk c.kind).2 then 0 else 1)))))] ?_))))
  refine nl (X_ret (rk [.iface 164 (.pointer (some (errAt es (if (uchk c.kind).2 then 0 else 1))))] (hR_ _ _ ?_)))
  have hu : (uchk c.kind).2 = false := by cases hu_ : (uchk c.kind).2 with | false => rfl | true => exact absurd (by rw [hu_]; rfl) c_11
  have hce : B.cErr c = 1 := by unfold B.cErr; rw [if_pos c_6]; rw [if_neg (fun h_ => by rcases h_ with h_ | h_; (· exact absurd h_ (by assumption)); (· omega))]; exact if_pos hu
  rw [hce, hu]
  exact ⟨rfl, (bt hb_2 hb_10)⟩
 refine xr 2 [(9, .eq (.bool false))] [(6, .bool false)] [8] [Value.bool (c.rune == (-1)) = Value.bool false] ⟨congrArg Value.bool (beq_eq_false_iff_ne.2 (c_6)), trivial⟩ ?_
 refine nl (cf (sq (rg (xr 2 [(37, .load (.int .i32 c.rune))] [(37, .int .i32 c.rune)] [6] [LoadsAs Tryd.prog 21 (⟨w.heap.size, 0, none⟩) (.int .i32 c.rune) w_1] ⟨loads1 rfl (Blk.cell hk_3 0 _ rfl), trivial⟩ ?_))))
 refine xc 52 ent52 [.int .i32 c.rune] (width_any c.rune _) ?_
 rintro e w_17 ⟨rfl, hb_18⟩; refine ⟨_, rfl, ?_⟩
 by_cases c_19 : (U.widthP c.rune : Int) = 0
 ·refine xr 14 [(39, .eq (.bool true))] [(35, .bool true)] [37, 38] [Value.bool ((U.widthP c.rune : Int) == 0) = Value.bool true] ⟨congrArg Value.bool (beq_iff_eq.2 (c_19)), trivial⟩ ?_
  refine nl (ct (sq (rg (xe 2 [(52, .load (.iface 164 (.pointer (some (errAt es 5)))))] [(2, .iface 164 (.pointer (some (errAt es 5))))] [LoadsAs Tryd.prog 30 (⟨6, 0, none⟩) (.iface 164 (.pointer (some (errAt es 5)))) w_17] ⟨loads1 rfl (((bt hb_2 hb_18).cell (World.block_lt_of_cell? _ _ (hE.load 5 6 (by decide) (by decide) rfl))).trans (hE.load 5 6 (by decide) (by decide) rfl)), trivial⟩ ?_))))
  refine nl (X_ret (rk [.iface 164 (.pointer (some (errAt es 5)))] (hR_ _ _ ?_)))
  have hce : B.cErr c = 5 := by unfold B.cErr; rw [if_neg c_6]; exact if_pos (by first | exact .inl ((width0 _).1 (by assumption)) | exact .inr (.inl (by assumption)) | exact .inr (.inr (of_decide_eq_false (Bool.eq_false_iff.2 (by assumption)))))
  rw [hce]
  exact ⟨rfl, (bt hb_2 hb_18)⟩
 refine xr 4 [(39, .eq (.bool false)), (42, .load (.string c.kind))] [(40, .bool false), (42, .string c.kind)] [37, 38] [Value.bool ((U.widthP c.rune : Int) == 0) = Value.bool false, LoadsAs Tryd.prog 9 (⟨w.heap.size, 1, none⟩) (.string c.kind) w_17] ⟨congrArg Value.bool (beq_eq_false_iff_ne.2 (c_19)), loads1 rfl (Blk.cell (Blk.below hk_3 hb_18) 1 _ rfl), trivial⟩ ?_
 by_cases c_20 : c.kind = (⟨#[]⟩ : ByteArray)
 ·refine xe 6 [(43, .eq (.bool false)), (47, .load (.agg #[.int .i64 c.vk, .int .i64 c.vn, .string c.vt]))] [(1, pw w.heap.size 0), (45, .bool false), (47, .agg #[.int .i64 c.vk, .int .i64 c.vn, .string c.vt]), (48, .agg #[.int .i64 0, .int .i64 0, .string ByteArray.empty])] [Value.bool (!c.kind.toList == (⟨#[]⟩ : ByteArray).toList) = Value.bool false, LoadsAs Tryd.prog 41 (⟨w.heap.size, 2, none⟩) (.agg #[.int .i64 c.vk, .int .i64 c.vn, .string c.vt]) w_17] ⟨congrArg Value.bool (strNeF (c_20)), loadsB rfl rfl (Blk.below hk_3 hb_18) 2 ⟨by kernel_rfl, by kernel_rfl⟩, trivial⟩ ?_
  refine xc 53 ent53 [.agg #[.int .i64 c.vk, .int .i64 c.vn, .string c.vt], .agg #[.int .i64 0, .int .i64 0, .string ByteArray.empty]] (vsame_any (c.vk, c.vn, c.vt) pl0 _) ?_
  rintro e w_21 ⟨rfl, hb_22⟩; refine ⟨_, rfl, ?_⟩
  by_cases c_23 : decide ((c.vk, c.vn, c.vt) = pl0) = true
  ·rw [show (decide ((c.vk, c.vn, c.vt) = pl0) : Bool) = true from by simpa using c_23]
   refine xr0 3 [(35, .bool false)] [45, 47, 48, 49] ?_
   refine nl (cf (sk (sq (rg (xe 2 [(54, .load (.slice A c.attrs.length k))] [(54, .slice A c.attrs.length k)] [LoadsAs Tryd.prog 42 (⟨w.heap.size, 5, none⟩) (.slice A c.attrs.length k) w_21] ⟨loads1 rfl (Blk.cell (Blk.below hk_3 (bt hb_18 hb_22)) 5 _ rfl), trivial⟩ ?_)))))
   refine xc 54 ent54 [.slice A c.attrs.length k, .bool false] (acheck_any _ _ c.attrs false _ (Kd.C_below hA (bt (bt hb_2 hb_18) hb_22)) (fun i_ h_ => by have h2_ := hz.2.2.2 i_ h_; omega) (hT.below (bt (bt hb_2 hb_18) hb_22)) es (hEA.below (bt (bt hb_2 hb_18) hb_22))) ?_
   rintro e w_24 ⟨rfl, hb_25⟩; refine ⟨_, rfl, ?_⟩
   refine xe0 1 [(2, errV es (chkA false c.attrs))] ?_
   refine nl (X_ret (rk [errV es (chkA false c.attrs)] (hR_ _ _ ?_)))
   have hce : B.cErr c = chkA false c.attrs := by unfold B.cErr; rw [if_neg c_6]; exact if_neg (fun h_ => by rcases h_ with h_ | h_ | h_; (· exact absurd ((width0 _).2 h_) (by assumption)); (· exact absurd (by assumption) h_); (· exact absurd (of_decide_eq_true (by assumption)) h_))
   rw [hce]
   exact ⟨rfl, (bt (bt (bt hb_2 hb_18) hb_22) hb_25)⟩
  rw [show (decide ((c.vk, c.vn, c.vt) = pl0) : Bool) = false from by simpa using c_23]
  refine xr0 3 [(35, .bool true)] [45, 47, 48, 49] ?_
  refine nl (ct (sq (rg (xe 2 [(52, .load (.iface 164 (.pointer (some (errAt es 5)))))] [(2, .iface 164 (.pointer (some (errAt es 5))))] [LoadsAs Tryd.prog 30 (⟨6, 0, none⟩) (.iface 164 (.pointer (some (errAt es 5)))) w_21] ⟨loads1 rfl (((bt (bt hb_2 hb_18) hb_22).cell (World.block_lt_of_cell? _ _ (hE.load 5 6 (by decide) (by decide) rfl))).trans (hE.load 5 6 (by decide) (by decide) rfl)), trivial⟩ ?_))))
  refine nl (X_ret (rk [.iface 164 (.pointer (some (errAt es 5)))] (hR_ _ _ ?_)))
  have hce : B.cErr c = 5 := by unfold B.cErr; rw [if_neg c_6]; exact if_pos (by first | exact .inl ((width0 _).1 (by assumption)) | exact .inr (.inl (by assumption)) | exact .inr (.inr (of_decide_eq_false (Bool.eq_false_iff.2 (by assumption)))))
  rw [hce]
  exact ⟨rfl, (bt (bt hb_2 hb_18) hb_22)⟩
 refine xe 10 [(43, .eq (.bool true))] [(1, pw w.heap.size 0), (35, .bool true)] [Value.bool (!c.kind.toList == (⟨#[]⟩ : ByteArray).toList) = Value.bool true] ⟨congrArg Value.bool (strNeT (c_20)), trivial⟩ ?_
 refine nl (ct (sq (rg (xe 2 [(52, .load (.iface 164 (.pointer (some (errAt es 5)))))] [(2, .iface 164 (.pointer (some (errAt es 5))))] [LoadsAs Tryd.prog 30 (⟨6, 0, none⟩) (.iface 164 (.pointer (some (errAt es 5)))) w_17] ⟨loads1 rfl (((bt hb_2 hb_18).cell (World.block_lt_of_cell? _ _ (hE.load 5 6 (by decide) (by decide) rfl))).trans (hE.load 5 6 (by decide) (by decide) rfl)), trivial⟩ ?_))))
 refine nl (X_ret (rk [.iface 164 (.pointer (some (errAt es 5)))] (hR_ _ _ ?_)))
 have hce : B.cErr c = 5 := by unfold B.cErr; rw [if_neg c_6]; exact if_pos (by first | exact .inl ((width0 _).1 (by assumption)) | exact .inr (.inl (by assumption)) | exact .inr (.inr (of_decide_eq_false (Bool.eq_false_iff.2 (by assumption)))))
 rw [hce]
 exact ⟨rfl, (bt hb_2 hb_18)⟩
def cLike (a b : CellA) : Bool := decide (a.rune = b.rune) && (decide (a.kind = b.kind) && decide (((a.vk, a.vn, a.vt) : Pl) = (b.vk, b.vn, b.vt)))
def cEqP (a b : CellA) : Bool := cLike a b && decide (a.attrs = b.attrs)
theorem cEqP_iff (a b : CellA) : cEqP a b = true ↔ a = b := by
 obtain ⟨a1, a2, a3, a4, a5, a6⟩ := a
 obtain ⟨b1, b2, b3, b4, b5, b6⟩ := b
 simp only [cEqP, cLike, Bool.and_eq_true, decide_eq_true_eq, Prod.mk.injEq, CellA.mk.injEq]
 exact ⟨fun ⟨⟨h1, h2, h3, h4, h5⟩, h6⟩ => ⟨h1, h2, h3, h4, h5, h6⟩, fun ⟨h1, h2, h3, h4, h5, h6⟩ => ⟨⟨h1, h2, h3, h4, h5⟩, h6⟩⟩
noncomputable def csEqP (xs ys : List CellA) : Bool := @decide (xs = ys) (Classical.propDecidable _)
theorem csEqP_iff (xs ys : List CellA) : csEqP xs ys = true ↔ xs = ys := by unfold csEqP; exact @decide_eq_true_iff _ (Classical.propDecidable _)
theorem csEqP_false (xs ys : List CellA) : csEqP xs ys = false ↔ ¬ xs = ys := by rw [← csEqP_iff]; cases csEqP xs ys <;> simp
theorem cells_ext {xs ys : List CellA} (hl : xs.length = ys.length) (h : ∀ q, q < xs.length → xs.getD q cell0 = ys.getD q cell0) : xs = ys :=
 List.ext_getElem hl fun q h1 h2 => by have := h q h1; simpa [List.getD_eq_getElem?_getD, List.getElem?_eq_getElem h1, List.getElem?_eq_getElem h2] using this
theorem r9like_any (a b : CellA) (A D : Option Addr) (k d : Nat) (w : World) (hA : kAttr.C w A a.attrs.length a.attrs) (hB : kAttr.C w D b.attrs.length b.attrs) : Calls Tryd.prog 32 #[.agg (c6A a (.slice A a.attrs.length k)), .agg (c6A b (.slice D b.attrs.length d))] w fun e w' => e = .returned (.bool (cLike a b)) ∧ Below w.heap.size w w' := by
 refine RX.enter Tryd.func32 rfl 24 rfl [(0, .agg (c6A a (.slice A a.attrs.length k))), (1, .agg (c6A b (.slice D b.attrs.length d)))] rfl (by kernel_rfl) (fun R_ hR_ => ?_)
 refine sq (rg (xwe 1 [] [(1, .agg (c6A b (.slice D b.attrs.length d))), (2, pw w.heap.size 0)] (w.alloc (.cells (c6A a (.slice A a.attrs.length k)) 44)) [] trivial ?_))
 obtain ⟨w_1, hw_5, hb_2, hk_3, hz_4⟩ := new_world w (c6A a (.slice A a.attrs.length k)) 44
 rw [hw_5]
 refine xw 1 [] [(3, pw w_1.heap.size 0)] [1] (w_1.alloc (.cells (c6A b (.slice D b.attrs.length d)) 44)) [] trivial ?_
 obtain ⟨w_6, hw_10, hb_7, hk_8, hz_9⟩ := new_world w_1 (c6A b (.slice D b.attrs.length d)) 44
 rw [hw_10]
 refine xr0 1 [] [] ?_
 refine nl (sq (rg (xr 4 [(6, .load (.int .i32 a.rune)), (8, .load (.int .i32 b.rune))] [(6, .int .i32 a.rune), (8, .int .i32 b.rune)] [] [LoadsAs Tryd.prog 21 (⟨w.heap.size, 0, none⟩) (.int .i32 a.rune) w_6, LoadsAs Tryd.prog 21 (⟨w_1.heap.size, 0, none⟩) (.int .i32 b.rune) w_6] ⟨loads1 rfl (Blk.cell (Blk.below hk_3 hb_7) 0 _ rfl), loads1 rfl (Blk.cell hk_8 0 _ rfl), trivial⟩ ?_)))
 by_cases c_11 : a.rune = b.rune
 ·refine xr 6 [(9, .eq (.bool true)), (12, .load (.string a.kind)), (14, .load (.string b.kind))] [(10, .bool true), (12, .string a.kind), (14, .string b.kind)] [6, 8] [Value.bool (a.rune == b.rune) = Value.bool true, LoadsAs Tryd.prog 9 (⟨w.heap.size, 1, none⟩) (.string a.kind) w_6, LoadsAs Tryd.prog 9 (⟨w_1.heap.size, 1, none⟩) (.string b.kind) w_6] ⟨congrArg Value.bool (beq_iff_eq.2 (c_11)), loads1 rfl (Blk.cell (Blk.below hk_3 hb_7) 1 _ rfl), loads1 rfl (Blk.cell hk_8 1 _ rfl), trivial⟩ ?_
  by_cases c_12 : a.kind = b.kind
  ·refine xe 7 [(15, .eq (.bool true)), (19, .load (.agg #[.int .i64 a.vk, .int .i64 a.vn, .string a.vt])), (21, .load (.agg #[.int .i64 b.vk, .int .i64 b.vn, .string b.vt]))] [(17, .bool true), (19, .agg #[.int .i64 a.vk, .int .i64 a.vn, .string a.vt]), (21, .agg #[.int .i64 b.vk, .int .i64 b.vn, .string b.vt])] [Value.bool (a.kind.toList == b.kind.toList) = Value.bool true, LoadsAs Tryd.prog 41 (⟨w.heap.size, 2, none⟩) (.agg #[.int .i64 a.vk, .int .i64 a.vn, .string a.vt]) w_6, LoadsAs Tryd.prog 41 (⟨w_1.heap.size, 2, none⟩) (.agg #[.int .i64 b.vk, .int .i64 b.vn, .string b.vt]) w_6] ⟨congrArg Value.bool (strEqT (c_12)), loadsB rfl rfl (Blk.below hk_3 hb_7) 2 ⟨by kernel_rfl, by kernel_rfl⟩, loadsB rfl rfl hk_8 2 ⟨by kernel_rfl, by kernel_rfl⟩, trivial⟩ ?_
   by_cases c_13 : (a.vk, a.vn, a.vt) = (b.vk, b.vn, b.vt)
   ·refine xe 3 [(22, .as (.bool true))] [(4, .bool true)] [RunsAs Tryd.prog [(19, .agg #[.int .i64 a.vk, .int .i64 a.vn, .string a.vt]), (21, .agg #[.int .i64 b.vk, .int .i64 b.vn, .string b.vt])] (Go.Op.binOp Go.BinOp.eql 41 (Go.Operand.tmp 19) (Go.Operand.tmp 21) 41) 4 (.bool true) w_6] ⟨runs_bin rfl rfl (run_eqGuard_agg _ _ _ _ _ _ _ (by kernel_rfl)) (by have h := plain_eqb (a.vk, a.vn, a.vt) (b.vk, b.vn, b.vt) w_6; rw [show ple (a.vk, a.vn, a.vt) (b.vk, b.vn, b.vt) = true from (ple_iff _ _).2 c_13] at h; exact h), trivial⟩ ?_
    refine nl (X_ret (rk [.bool true] (hR_ _ _ ?_)))
    rw [show cLike a b = true from by unfold cLike; simp_all]
    exact ⟨rfl, (bt hb_2 hb_7)⟩
   refine xe 3 [(22, .as (.bool false))] [(4, .bool false)] [RunsAs Tryd.prog [(19, .agg #[.int .i64 a.vk, .int .i64 a.vn, .string a.vt]), (21, .agg #[.int .i64 b.vk, .int .i64 b.vn, .string b.vt])] (Go.Op.binOp Go.BinOp.eql 41 (Go.Operand.tmp 19) (Go.Operand.tmp 21) 41) 4 (.bool false) w_6] ⟨runs_bin rfl rfl (run_eqGuard_agg _ _ _ _ _ _ _ (by kernel_rfl)) (by have h := plain_eqb (a.vk, a.vn, a.vt) (b.vk, b.vn, b.vt) w_6; rw [show ple (a.vk, a.vn, a.vt) (b.vk, b.vn, b.vt) = false from Bool.eq_false_iff.2 (fun k => c_13 ((ple_iff _ _).1 k))] at h; exact h), trivial⟩ ?_
   refine nl (X_ret (rk [.bool false] (hR_ _ _ ?_)))
   rw [show cLike a b = false from by unfold cLike; simp_all]
   exact ⟨rfl, (bt hb_2 hb_7)⟩
  refine xe 10 [(15, .eq (.bool false))] [(4, .bool false)] [Value.bool (a.kind.toList == b.kind.toList) = Value.bool false] ⟨congrArg Value.bool (strEqF (c_12)), trivial⟩ ?_
  refine nl (X_ret (rk [.bool false] (hR_ _ _ ?_)))
  rw [show cLike a b = false from by unfold cLike; simp_all]
  exact ⟨rfl, (bt hb_2 hb_7)⟩
 refine xe 16 [(9, .eq (.bool false))] [(4, .bool false)] [Value.bool (a.rune == b.rune) = Value.bool false] ⟨congrArg Value.bool (beq_eq_false_iff_ne.2 (c_11)), trivial⟩ ?_
 refine nl (X_ret (rk [.bool false] (hR_ _ _ ?_)))
 rw [show cLike a b = false from by unfold cLike; simp_all]
 exact ⟨rfl, (bt hb_2 hb_7)⟩
theorem r9same_any (a b : CellA) (A D : Option Addr) (k d : Nat) (w : World) (hA : kAttr.C w A a.attrs.length a.attrs) (hB : kAttr.C w D b.attrs.length b.attrs) : Calls Tryd.prog 16 #[.agg (c6A a (.slice A a.attrs.length k)), .agg (c6A b (.slice D b.attrs.length d))] w fun e w' => e = .returned (.bool (cEqP a b)) ∧ Below w.heap.size w w' := by
 refine RX.enter Tryd.func16 rfl 15 rfl [(0, .agg (c6A a (.slice A a.attrs.length k))), (1, .agg (c6A b (.slice D b.attrs.length d)))] rfl (by kernel_rfl) (fun R_ hR_ => ?_)
 refine sq (rg (xwe 1 [] [(1, .agg (c6A b (.slice D b.attrs.length d))), (2, pw w.heap.size 0)] (w.alloc (.cells (c6A a (.slice A a.attrs.length k)) 44)) [] trivial ?_))
 obtain ⟨w_1, hw_5, hb_2, hk_3, hz_4⟩ := new_world w (c6A a (.slice A a.attrs.length k)) 44
 rw [hw_5]
 refine xw 1 [] [(3, pw w_1.heap.size 0)] [1] (w_1.alloc (.cells (c6A b (.slice D b.attrs.length d)) 44)) [] trivial ?_
 obtain ⟨w_6, hw_10, hb_7, hk_8, hz_9⟩ := new_world w_1 (c6A b (.slice D b.attrs.length d)) 44
 rw [hw_10]
 refine xr0 1 [] [] ?_
 refine nl (sq (rg (xr 2 [(5, .load (.agg (c6A a (.slice A a.attrs.length k)))), (6, .load (.agg (c6A b (.slice D b.attrs.length d))))] [(5, .agg (c6A a (.slice A a.attrs.length k))), (6, .agg (c6A b (.slice D b.attrs.length d)))] [] [LoadsAs Tryd.prog 44 (⟨w.heap.size, 0, none⟩) (.agg (c6A a (.slice A a.attrs.length k))) w_6, LoadsAs Tryd.prog 44 (⟨w_1.heap.size, 0, none⟩) (.agg (c6A b (.slice D b.attrs.length d))) w_6] ⟨loadsB rfl rfl (Blk.below hk_3 hb_7) 0 ⟨by kernel_rfl, by kernel_rfl⟩, loadsB rfl rfl hk_8 0 ⟨by kernel_rfl, by kernel_rfl⟩, trivial⟩ ?_)))
 refine xc 32 ent32 [.agg (c6A a (.slice A a.attrs.length k)), .agg (c6A b (.slice D b.attrs.length d))] (r9like_any a b _ _ _ _ _ (Kd.C_below hA (bt hb_2 hb_7)) (Kd.C_below hB (bt hb_2 hb_7))) ?_
 rintro e w_11 ⟨rfl, hb_12⟩; refine ⟨_, rfl, ?_⟩
 refine xr0 1 [(8, .bool (cLike a b))] [5, 6, 7] ?_
 by_cases c_13 : cLike a b = true
 ·rw [show (cLike a b : Bool) = true from by simpa using c_13]
  refine xe 4 [(10, .load (.slice A a.attrs.length k)), (12, .load (.slice D b.attrs.length d))] [(8, .bool true), (10, .slice A a.attrs.length k), (12, .slice D b.attrs.length d)] [LoadsAs Tryd.prog 42 (⟨w.heap.size, 5, none⟩) (.slice A a.attrs.length k) w_11, LoadsAs Tryd.prog 42 (⟨w_1.heap.size, 5, none⟩) (.slice D b.attrs.length d) w_11] ⟨loads1 rfl (Blk.cell (Blk.below hk_3 (bt hb_7 hb_12)) 5 _ rfl), loads1 rfl (Blk.cell (Blk.below hk_8 hb_12) 5 _ rfl), trivial⟩ ?_
  refine xc 33 ent33 [.slice A a.attrs.length k, .slice D b.attrs.length d] (refSame_any _ _ _ _ a.attrs b.attrs _ (Kd.C_below hA (bt (bt hb_2 hb_7) hb_12)) (Kd.C_below hB (bt (bt hb_2 hb_7) hb_12))) ?_
  rintro e w_14 ⟨rfl, hb_15⟩; refine ⟨_, rfl, ?_⟩
  refine xe0 2 [(4, .bool (decide (a.attrs = b.attrs)))] ?_
  refine nl (X_ret (rk [.bool (decide (a.attrs = b.attrs))] (hR_ _ _ ?_)))
  rw [show cEqP a b = decide (a.attrs = b.attrs) from by unfold cEqP; simp_all]
  exact ⟨rfl, (bt (bt (bt hb_2 hb_7) hb_12) hb_15)⟩
 rw [show (cLike a b : Bool) = false from by simpa using c_13]
 refine xe0 7 [(4, .bool false)] ?_
 refine nl (X_ret (rk [.bool false] (hR_ _ _ ?_)))
 rw [show cEqP a b = false from by unfold cEqP; simp_all]
 exact ⟨rfl, (bt (bt hb_2 hb_7) hb_12)⟩
theorem r9list_any (A D : Option Addr) (c d : Nat) (xs ys : List CellA) (w : World) (hx : kCell.C w A xs.length xs) (hy : kCell.C w D ys.length ys) : Calls Tryd.prog 12 #[.slice A xs.length c, .slice D ys.length d] w fun e w' => e = .returned (.bool (csEqP xs ys)) ∧ Below w.heap.size w w' := by
 have hpl : xs.length ≤ 9223372036854775807 := hx.2.1
 refine RX.enter Tryd.func12 rfl 27 rfl [(0, .slice A xs.length c), (1, .slice D ys.length d)] rfl (by kernel_rfl) (fun R_ hR_ => ?_)
 refine sq (rg (xe0 1 [(0, .slice A xs.length c), (1, .slice D ys.length d)] ?_))
 refine nl (sq (sq (rg (xr0 4 [(7, .int .i64 (xs.length : Int)), (9, .int .i64 (ys.length : Int))] [] ?_))))
 by_cases c_1 : (xs.length : Int) = (ys.length : Int)
 ·refine xr 1 [(10, .eq (.bool false))] [(10, .bool false)] [7, 9] [Value.bool ((xs.length : Int) != (ys.length : Int)) = Value.bool false] ⟨congrArg Value.bool (bneF (c_1)), trivial⟩ ?_
  refine nl (cf (sk (sq (sq (rg (xr0 3 [(12, .int .i64 (xs.length : Int)), (13, .int .i64 0)] [10] ?_))))))
  refine nl (bk (X_loop (ι := Nat) (fun i => [(0, .slice A xs.length c), (1, .slice D ys.length d), (12, .int .i64 (xs.length : Int)), (13, .int .i64 (i : Int))]) (fun i wl => i ≤ xs.length ∧ xs.length = ys.length ∧ (∀ q, q < i → xs.getD q cell0 = ys.getD q cell0) ∧ Below w.heap.size w wl) (fun i => xs.length - i) 0 ⟨by omega, by omega, fun q hq => by omega, (Below.refl _ _)⟩ (by kernel_rfl) ?_))
  rintro i wl ⟨hi, hlen, hq0, HB⟩
  refine sq (X_region ?_)
  by_cases c_2 : (i : Int) < (xs.length : Int)
  ·refine xr 1 [(14, .eq (.bool true))] [(14, .bool true)] [] [Value.bool (decide ((i : Int) < (xs.length : Int))) = Value.bool true] ⟨congrArg Value.bool (decide_eq_true (c_2)), trivial⟩ ?_
   refine nl (sq (ct (sk (sq (bk (sq (rg (xr0 2 [(5, nv i)] [14] ?_))))))))
   refine nl (sq (X_any [8] 10 #[false, false, false, false, false, false, false, false, false, false] (by kernel_rfl) (by kernel_rfl) (by kernel_rfl) (fun wd_3 hb_4 hh_5 => ?_)))
   refine XA_run (fuel' := 8) [0, 1] [] [.slice A xs.length c, .int .i64 (i : Int)] #[true, true, false, false, false, false, false, false, false, false] [(0, .slice A xs.length c), (1, .slice D ys.length d), (5, .int .i64 (i : Int)), (12, .int .i64 (xs.length : Int)), (13, .int .i64 (i : Int)), (16, .slice A xs.length c), (17, .int .i64 (i : Int))] [] (fun _ _ _ _ h => h) (by kernel_rfl) rfl trivial ?_
   obtain ⟨ad_6, B_9, c_10, ha_7, hc_8, hl_11, hC_12⟩ := Kd.atCell (Kd.C_below hx (bt HB hb_4)) (i := (i : Int)) (by omega) (by omega)
   replace hc_8 : CellsAt wd_3 (ad_6.add ((i : Int).toNat * 6)) (c6L (xs.getD i cell0) (.slice B_9 ((xs.getD i cell0).attrs.length) c_10)) := hc_8
   replace hl_11 : (xs.getD i cell0).attrs.length ≤ c_10 := hl_11
   replace hC_12 : kAttr.C wd_3 B_9 ((xs.getD i cell0).attrs.length) (xs.getD i cell0).attrs := hC_12
   refine XA_run (fuel' := 4) [2, 3, 4, 5] [(18, .idx ad_6), (19, .load (.agg (c6A (xs.getD i cell0) (.slice B_9 ((xs.getD i cell0).attrs.length) c_10))))] [.pointer (some (ad_6.add ((i : Int).toNat * 6))), .agg (c6A (xs.getD i cell0) (.slice B_9 ((xs.getD i cell0).attrs.length) c_10)), .slice D ys.length d, .int .i64 (i : Int)] #[true, true, true, true, true, true, false, false, false, false] [(0, .slice A xs.length c), (1, .slice D ys.length d), (12, .int .i64 (xs.length : Int)), (13, .int .i64 (i : Int)), (19, .agg (c6A (xs.getD i cell0) (.slice B_9 ((xs.getD i cell0).attrs.length) c_10))), (20, .slice D ys.length d), (21, .int .i64 (i : Int))] [A = some ad_6, (0 : Int) ≤ (i : Int), (i : Int) < (xs.length : Int), LoadsAs Tryd.prog 44 (ad_6.add ((i : Int).toNat * 6)) (.agg (c6A (xs.getD i cell0) (.slice B_9 ((xs.getD i cell0).attrs.length) c_10))) wd_3] (fun _ _ _ _ h => h) (by kernel_rfl) rfl ⟨ha_7, (by omega), (by omega), loadsE rfl rfl hc_8 0 ⟨by kernel_rfl, by kernel_rfl⟩, trivial⟩ ?_
   obtain ⟨ad_13, B_16, c_17, ha_14, hc_15, hl_18, hC_19⟩ := Kd.atCell (Kd.C_below hy (bt HB hb_4)) (i := (i : Int)) (by omega) (by omega)
   replace hc_15 : CellsAt wd_3 (ad_13.add ((i : Int).toNat * 6)) (c6L (ys.getD i cell0) (.slice B_16 ((ys.getD i cell0).attrs.length) c_17)) := hc_15
   replace hl_18 : (ys.getD i cell0).attrs.length ≤ c_17 := hl_18
   replace hC_19 : kAttr.C wd_3 B_16 ((ys.getD i cell0).attrs.length) (ys.getD i cell0).attrs := hC_19
   refine XA_run (fuel' := 2) [6, 7] [(22, .idx ad_13), (23, .load (.agg (c6A (ys.getD i cell0) (.slice B_16 ((ys.getD i cell0).attrs.length) c_17))))] [.pointer (some (ad_13.add ((i : Int).toNat * 6))), .agg (c6A (ys.getD i cell0) (.slice B_16 ((ys.getD i cell0).attrs.length) c_17))] #[true, true, true, true, true, true, true, true, false, false] [(0, .slice A xs.length c), (1, .slice D ys.length d), (12, .int .i64 (xs.length : Int)), (13, .int .i64 (i : Int)), (19, .agg (c6A (xs.getD i cell0) (.slice B_9 ((xs.getD i cell0).attrs.length) c_10))), (23, .agg (c6A (ys.getD i cell0) (.slice B_16 ((ys.getD i cell0).attrs.length) c_17)))] [D = some ad_13, (0 : Int) ≤ (i : Int), (i : Int) < (ys.length : Int), LoadsAs Tryd.prog 44 (ad_13.add ((i : Int).toNat * 6)) (.agg (c6A (ys.getD i cell0) (.slice B_16 ((ys.getD i cell0).attrs.length) c_17))) wd_3] (fun _ _ _ _ h => h) (by kernel_rfl) rfl ⟨ha_14, (by omega), (by omega), loadsE rfl rfl hc_15 0 ⟨by kernel_rfl, by kernel_rfl⟩, trivial⟩ ?_
   refine XA_act (fuel' := 1) 8 #[true, true, true, true, true, true, true, true, true, false] _ rfl (by kernel_rfl) rfl (by kernel_rfl) rfl ?_
   refine xc 16 ent16 [.agg (c6A (xs.getD i cell0) (.slice B_9 ((xs.getD i cell0).attrs.length) c_10)), .agg (c6A (ys.getD i cell0) (.slice B_16 ((ys.getD i cell0).attrs.length) c_17))] (r9same_any (xs.getD i cell0) (ys.getD i cell0) _ _ _ _ _ hC_12 hC_19) ?_
   rintro e w_20 ⟨rfl, hb_21⟩; refine ⟨_, rfl, ?_⟩
   refine nl ?_
   by_cases c_22 : cEqP (xs.getD i cell0) (ys.getD i cell0) = true
   ·rw [show (cEqP (xs.getD i cell0) (ys.getD i cell0) : Bool) = true from by simpa using c_22]
    refine XA_pure (fuel' := 0) [9] [] [.bool false] #[true, true, true, true, true, true, true, true, true, true] [(0, .slice A xs.length c), (1, .slice D ys.length d), (12, .int .i64 (xs.length : Int)), (13, .int .i64 (i : Int)), (25, .bool false)] (fun w_ => []) (fun _ _ _ _ h => h) (fun w_ => by kernel_rfl) rfl (fun w_ => trivial) ?_
    refine XA_done (by kernel_rfl) ?_
    refine cf (sk (rg (xr 2 [(26, .eq (.int .i64 ((i : Int) + 1)))] [(13, .int .i64 ((i : Int) + 1))] [25] [Value.int .i64 (IntKind.i64.wrap ((i : Int) + 1)) = Value.int .i64 ((i : Int) + 1)] ⟨wr_i64 (by omega) (by omega), trivial⟩ ?_)))
    refine nl ?_
    refine ⟨(i + 1), by kernel_rfl, ?_, ?_⟩
    ·exact ⟨by omega, by omega, fun q hq => by by_cases e_ : q = i; (· subst e_; exact (cEqP_iff _ _).1 c_22); (· exact hq0 q (by omega)), (bt (bt HB hb_4) hb_21)⟩
    (try dsimp only); omega
   rw [show (cEqP (xs.getD i cell0) (ys.getD i cell0) : Bool) = false from by simpa using c_22]
   refine XA_pure (fuel' := 0) [9] [] [.bool true] #[true, true, true, true, true, true, true, true, true, true] [(0, .slice A xs.length c), (1, .slice D ys.length d), (12, .int .i64 (xs.length : Int)), (13, .int .i64 (i : Int)), (25, .bool true)] (fun w_ => []) (fun _ _ _ _ h => h) (fun w_ => by kernel_rfl) rfl (fun w_ => trivial) ?_
   refine XA_done (by kernel_rfl) ?_
   refine ct (sq (rg (xe0 1 [(4, .bool false)] ?_)))
   refine nl (X_ret (rk [.bool false] (hR_ _ _ ?_)))
   rw [(csEqP_false xs ys).2 (fun e_ => c_22 ((cEqP_iff _ _).2 (by rw [e_])))]
   exact ⟨rfl, (bt (bt HB hb_4) hb_21)⟩
  refine xr 1 [(14, .eq (.bool false))] [(14, .bool false)] [] [Value.bool (decide ((i : Int) < (xs.length : Int))) = Value.bool false] ⟨congrArg Value.bool (decide_eq_false (c_2)), trivial⟩ ?_
  refine nl (sq (cf (X_exit (sq (rg (xe0 1 [(4, .bool true)] ?_))))))
  refine nl (X_ret (rk [.bool true] (hR_ _ _ ?_)))
  rw [(csEqP_iff xs ys).2 (cells_ext hlen (fun q hq => hq0 q (by omega)))]
  exact ⟨rfl, HB⟩
 refine xr 1 [(10, .eq (.bool true))] [(10, .bool true)] [7, 9] [Value.bool ((xs.length : Int) != (ys.length : Int)) = Value.bool true] ⟨congrArg Value.bool (bneT (c_1)), trivial⟩ ?_
 refine nl (ct (sq (rg (xe0 1 [(4, .bool false)] ?_))))
 refine nl (X_ret (rk [.bool false] (hR_ _ _ ?_)))
 rw [(csEqP_false xs ys).2 (fun e_ => by subst e_; omega)]
 exact ⟨rfl, (Below.refl _ _)⟩
end Go.Proofs.YtgphmfnkeolbcaaDoor
