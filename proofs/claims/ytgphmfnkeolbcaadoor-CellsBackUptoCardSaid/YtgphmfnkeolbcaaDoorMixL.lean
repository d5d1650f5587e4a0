import Derived.Test.YtgphmfnkeolbcaaDoorT31
import Derived.Test.YtgphmfnkeolbcaaDoorCell
import Derived.Test.YtgphmfnkeolbcaaDoorT32
import Derived.Test.YtgphmfnkeolbcaaDoorSpare
/- Cells with two spare attributes behind theirs; rows of cells that are written over. No condition. -/
set_option linter.unusedVariables false
set_option linter.unusedSimpArgs false
set_option maxRecDepth 100000
namespace Go.Proofs.YtgphmfnkeolbcaaDoor.RX
open Go Go.RowKit Go.Proofs.YtgphmfnkeolbcaaDoorW.PrintWords
theorem repsCells0 {w : World} {base : Nat} {ok : Nat → Prop} : ∀ (xs : List CellA), (∀ x ∈ xs, x.attrs = []) → Reps (kCell.M w base ok) 6 xs (xs.flatMap fun x => cellV x none 0)
  | [], _ => Reps.none _ _
  | x :: xs, h => by
    have hs : Reps (kCell.M w base ok) 6 [x] (cellV x none 0) := by
      have := (Reps.none (kCell.M w base ok) 6).snoc (kCell_M0 x (h x List.mem_cons_self)) rfl
      simpa using this
    have := Kd.reps_append hs (repsCells0 xs fun y hy => h y (List.mem_cons_of_mem _ hy))
    simpa using this
/-- a row whose elements from i on end in slices that lie; p cells ahead of the slice -/
structure ShapeP (p e' e : Nat) (ok : Nat → Prop) (w : World) (A : Option Addr) (n c i : Nat) : Prop where
  o : LiesO e' (p + 1) ok w A n c
  r : ∀ j, i ≤ j → j < n → ∃ ad pre B m c2, A = some ad ∧ CellsAt w (ad.add (j * (p + 1))) (pre ++ [.slice B m c2]) ∧ pre.length = p ∧ LiesO e 4 ok w B m c2 ∧ m ≤ 100000000
section
variable {p e' e : Nat} {ok : Nat → Prop} {w w1 : World} {A : Option Addr} {n c i : Nat}
theorem ShapeP.next (h : ShapeP p e' e ok w A n c i) : ShapeP p e' e ok w A n c (i + 1) := ⟨h.o, fun j h1 h2 => h.r j (by omega) h2⟩
theorem ShapeP.below (hb : Below w.heap.size w w1) (h : ShapeP p e' e ok w A n c i) : ShapeP p e' e ok w1 A n c i := ⟨h.o.below hb, fun j h1 h2 => by
  obtain ⟨ad, pre, B, m, c2, a, b, d, e, q⟩ := h.r j h1 h2
  exact ⟨ad, pre, B, m, c2, a, cells_below b hb, d, e.below hb, q⟩⟩
/-- element i has been written -/
theorem ShapeP.put (h : ShapeP p e' e ok w A n c (i + 1)) {g : Nat} {cs : Array Value} {vs : List Value} (hvs : vs.length = p + 1) (hA : A = some ⟨g, 0, none⟩) (hgk : ok g) (hb : RX.Blk w g e' cs) (hg : w.grownBy w1 (some g)) (hb1 : RX.Blk w1 g e' (setAll cs (i * (p + 1)) vs)) :
    WroteO e' ok w w1 ∧ ShapeP p e' e ok w1 A n c (i + 1) := by
  have hw : WroteO e' ok w w1 := ⟨some g, hg, fun k hk => by
    injection hk with hk
    subst hk
    exact ⟨hgk, cs, _, hb, hb1, setAll_size _ _ _⟩⟩
  have hs : SpoilO (· = e') ok w w1 := SpoilO.of_wrote hw rfl
  refine ⟨hw, h.o.spoil hs, fun j h1 h2 => ?_⟩
  obtain ⟨ad, pre, B, m, c2, a, b, d, k, hq⟩ := h.r j h1 h2
  obtain rfl : ad = ⟨g, 0, none⟩ := by rw [hA] at a; injection a with a; exact a.symm
  refine ⟨_, pre, B, m, c2, hA, cellsAt_blk hb1 fun q u hu => ?_, d, k.spoil hs, hq⟩
  have h3 : (i + 1) * (p + 1) ≤ j * (p + 1) := Nat.mul_le_mul_right _ h1
  rw [Nat.succ_mul] at h3
  rw [setAll_out _ _ _ _ (by omega)]
  exact blk_cellsAt b hb q u hu
end
end Go.Proofs.YtgphmfnkeolbcaaDoor.RX
/- What the laws of layer cells share. Conditions: sizes, the tables of utf8, the errors' variables. -/
set_option linter.unusedVariables false
set_option linter.unusedSimpArgs false
set_option maxRecDepth 100000
namespace Go.Proofs.YtgphmfnkeolbcaaDoor
open Go Go.RowKit Go.Proofs.YtgphmfnkeolbcaaDoorW.PrintWords RX
theorem ent18 : Ent Tryd.prog 18 := ent_of Tryd.func18 (by kernel_rfl) rfl
theorem ent5 : Ent Tryd.prog 5 := ent_of Tryd.func5 (by kernel_rfl) rfl
def lgC : List CellA → Nat
 | [] => 0
 | c :: r => (1 + c.kind.size + 10 * c.attrs.length) + lgC r
theorem lgC_append : ∀ xs ys : List CellA, lgC (xs ++ ys) = lgC xs + lgC ys
 | [], ys => by simp [lgC]
 | c :: r, ys => by simp only [List.cons_append, lgC, lgC_append r ys]; omega
theorem lgC_take {cs : List CellA} {i : Nat} (h : i < cs.length) : lgC (cs.take (i + 1)) = lgC (cs.take i) + (1 + (cs.getD i cell0).kind.size + 10 * (cs.getD i cell0).attrs.length) := by rw [take_snocD cell0 cs i h, lgC_append]; simp [lgC]
theorem lgC_len : ∀ cs : List CellA, cs.length ≤ lgC cs
 | [] => Nat.le_refl _
 | c :: r => by have := lgC_len r; simp only [lgC, List.length_cons]; omega
theorem large9_any (A : Option Addr) (c : Nat) (cs : List CellA) (w : World) (hx : kCell.C w A cs.length cs) (hn : cs.length ≤ 1048576) (hz : ∀ i, i < cs.length → B.cellSz (cs.getD i cell0)) : Calls Tryd.prog 18 #[.slice A cs.length c] w fun e w' => e = .returned (.bool (decide (20000 < lgC cs))) ∧ Below w.heap.size w w' := by
 have hpl : cs.length ≤ 9223372036854775807 := hx.2.1
 refine RX.enter Tryd.func18 rfl 26 rfl [(0, .slice A cs.length c)] rfl (by kernel_rfl) (fun R_ hR_ => ?_)
 refine sq (rg (xe0 1 [(0, .slice A cs.length c)] ?_))
 refine nl (sq (rg (xr0 1 [(3, .int .i64 0)] [] ?_)))
 refine nl (sq (sq (rg (xr0 3 [(6, .slice A cs.length c), (7, .int .i64 (cs.length : Int)), (8, .int .i64 0)] [0] ?_))))
 refine nl (bk (X_loop (ι := Nat) (fun i => [(3, .int .i64 (lgC (cs.take i) : Int)), (6, .slice A cs.length c), (7, .int .i64 (cs.length : Int)), (8, .int .i64 (i : Int))]) (fun i wl => i ≤ cs.length ∧ lgC (cs.take i) ≤ i * 70000000 ∧ Below w.heap.size w wl) (fun i => cs.length - i) 0 ⟨Nat.zero_le _, Nat.le_refl _, (Below.refl _ _)⟩ (by kernel_rfl) ?_))
 rintro i wl ⟨hi, hsz, HB⟩
 have hzi := fun (h_ : i < cs.length) => hz i h_
 have hlt := fun (h_ : i < cs.length) => lgC_take h_
 refine sq (X_region ?_)
 by_cases c_1 : (i : Int) < (cs.length : Int)
 ·refine xr 1 [(9, .eq (.bool true))] [(9, .bool true)] [] [Value.bool (decide ((i : Int) < (cs.length : Int))) = Value.bool true] ⟨congrArg Value.bool (decide_eq_true (c_1)), trivial⟩ ?_
  refine nl (sq (ct (sk (sq (bk (sq (X_region ?_)))))))
  obtain ⟨ad_2, B_5, c_6, ha_3, hc_4, hl_7, hC_8⟩ := Kd.atCell (Kd.C_below hx HB) (i := (i : Int)) (by omega) (by omega)
  replace hc_4 : CellsAt wl (ad_2.add ((i : Int).toNat * 6)) (c6L (cs.getD i cell0) (.slice B_5 ((cs.getD i cell0).attrs.length) c_6)) := hc_4
  replace hl_7 : (cs.getD i cell0).attrs.length ≤ c_6 := hl_7
  replace hC_8 : kAttr.C wl B_5 ((cs.getD i cell0).attrs.length) (cs.getD i cell0).attrs := hC_8
  refine xw 3 [(10, .idx ad_2), (11, .load (.agg (c6A (cs.getD i cell0) (.slice B_5 ((cs.getD i cell0).attrs.length) c_6))))] [(5, pw wl.heap.size 0), (11, .agg (c6A (cs.getD i cell0) (.slice B_5 ((cs.getD i cell0).attrs.length) c_6)))] [9] (wl.alloc (.cells #[.int .i32 0, .string ByteArray.empty, .int .i64 0, .int .i64 0, .string ByteArray.empty, .slice none 0 0] 44)) [A = some ad_2, (0 : Int) ≤ (i : Int), (i : Int) < (cs.length : Int), LoadsAs Tryd.prog 44 (ad_2.add ((i : Int).toNat * 6)) (.agg (c6A (cs.getD i cell0) (.slice B_5 ((cs.getD i cell0).attrs.length) c_6))) wl] ⟨ha_3, (by omega), (by omega), loadsE rfl rfl hc_4 0 ⟨by kernel_rfl, by kernel_rfl⟩, trivial⟩ ?_
  obtain ⟨w_9, hw_13, hb_10, hk_11, hz_12⟩ := new_world wl #[.int .i32 0, .string ByteArray.empty, .int .i64 0, .int .i64 0, .string ByteArray.empty, .slice none 0 0] 44
  rw [hw_13]
  refine xst (.agg (c6A (cs.getD i cell0) (.slice B_5 ((cs.getD i cell0).attrs.length) c_6))) hk_11 0 (c6A (cs.getD i cell0) (.slice B_5 ((cs.getD i cell0).attrs.length) c_6)) (fun w_14 hg_15 hk_16 hz_17 => ?_)
  refine nl (rg (xr0 2 [(12, .int .i64 (lgC (cs.take i) : Int)), (13, pw wl.heap.size 1)] [3, 11] ?_))
  have hszi := hzi (by omega)
  have hs1 := hszi.1
  have hs3 := hszi.2.2.1
  have hlg := hlt (by omega)
  refine xr 10 [(14, .load (.string ((cs.getD i cell0).kind))), (16, .eq (.int .i64 (1 + (((cs.getD i cell0).kind).size : Int)))), (18, .load (.slice B_5 ((cs.getD i cell0).attrs.length) c_6)), (20, .eq (.int .i64 (10 * ((cs.getD i cell0).attrs.length : Int)))), (21, .eq (.int .i64 ((1 + (((cs.getD i cell0).kind).size : Int)) + (10 * ((cs.getD i cell0).attrs.length : Int))))), (22, .eq (.int .i64 (lgC (cs.take (i + 1)) : Int)))] [(3, .int .i64 (lgC (cs.take (i + 1)) : Int))] [5, 12, 13] [LoadsAs Tryd.prog 9 (⟨wl.heap.size, 1, none⟩) (.string ((cs.getD i cell0).kind)) w_14, Value.int .i64 (IntKind.i64.wrap (1 + (((cs.getD i cell0).kind).size : Int))) = Value.int .i64 (1 + (((cs.getD i cell0).kind).size : Int)), LoadsAs Tryd.prog 42 (⟨wl.heap.size, 5, none⟩) (.slice B_5 ((cs.getD i cell0).attrs.length) c_6) w_14, Value.int .i64 (IntKind.i64.wrap (10 * ((cs.getD i cell0).attrs.length : Int))) = Value.int .i64 (10 * ((cs.getD i cell0).attrs.length : Int)), Value.int .i64 (IntKind.i64.wrap ((1 + (((cs.getD i cell0).kind).size : Int)) + (10 * ((cs.getD i cell0).attrs.length : Int)))) = Value.int .i64 ((1 + (((cs.getD i cell0).kind).size : Int)) + (10 * ((cs.getD i cell0).attrs.length : Int))), Value.int .i64 (IntKind.i64.wrap ((lgC (cs.take i) : Int) + ((1 + (((cs.getD i cell0).kind).size : Int)) + (10 * ((cs.getD i cell0).attrs.length : Int))))) = Value.int .i64 (lgC (cs.take (i + 1)) : Int)] ⟨loads1 rfl (Blk.cell hk_16 1 _ rfl), wr_i64 (by omega) (by omega), loads1 rfl (Blk.cell hk_16 5 _ rfl), wr_i64 (by omega) (by omega), wr_i64 (by omega) (by omega), (by rw [show (lgC (cs.take i) : Int) + ((1 + ((cs.getD i cell0).kind.size : Int)) + (10 * ((cs.getD i cell0).attrs.length : Int))) = (lgC (cs.take (i + 1)) : Int) from by omega]; exact wr_i64 (by omega) (by omega)), trivial⟩ ?_
  refine nl (rg (xr 2 [(23, .eq (.int .i64 ((i : Int) + 1)))] [(8, .int .i64 ((i : Int) + 1))] [] [Value.int .i64 (IntKind.i64.wrap ((i : Int) + 1)) = Value.int .i64 ((i : Int) + 1)] ⟨wr_i64 (by omega) (by omega), trivial⟩ ?_))
  refine nl ?_
  refine ⟨(i + 1), by kernel_rfl, ?_, ?_⟩
  ·exact ⟨by omega, by have h_ := hlt (by omega); omega, (bg (bt HB hb_10) hg_15 (HB).size)⟩
  (try dsimp only); omega
 refine xr 1 [(9, .eq (.bool false))] [(9, .bool false)] [] [Value.bool (decide ((i : Int) < (cs.length : Int))) = Value.bool false] ⟨congrArg Value.bool (decide_eq_false (c_1)), trivial⟩ ?_
 refine nl (sq (cf (X_exit (sq (rg (xe0 1 [(24, .int .i64 (lgC (cs.take i) : Int))] ?_))))))
 by_cases c_18 : (lgC (cs.take i) : Int) > 20000
 ·refine xe 2 [(25, .eq (.bool true))] [(2, .bool true)] [Value.bool (decide ((lgC (cs.take i) : Int) > 20000)) = Value.bool true] ⟨congrArg Value.bool (decide_eq_true (c_18)), trivial⟩ ?_
  refine nl (X_ret (rk [.bool true] (hR_ _ _ ?_)))
  have hxi : cs.take i = cs := List.take_of_length_le (by omega)
  rw [show decide (20000 < lgC cs) = true from decide_eq_true (by rw [← hxi]; omega)]
  exact ⟨rfl, HB⟩
 refine xe 2 [(25, .eq (.bool false))] [(2, .bool false)] [Value.bool (decide ((lgC (cs.take i) : Int) > 20000)) = Value.bool false] ⟨congrArg Value.bool (decide_eq_false (c_18)), trivial⟩ ?_
 refine nl (X_ret (rk [.bool false] (hR_ _ _ ?_)))
 have hxi : cs.take i = cs := List.take_of_length_le (by omega)
 rw [show decide (20000 < lgC cs) = false from decide_eq_false (by rw [← hxi]; omega)]
 exact ⟨rfl, HB⟩
def lc3 : List CellA := [(⟨97, ByteArray.empty, 0, 0, ByteArray.empty, []⟩ : CellA), (⟨98, ByteArray.empty, 0, 0, ByteArray.empty, []⟩ : CellA), (⟨(-1), (⟨#[105, 109, 97, 103, 101]⟩ : ByteArray), 0, 0, ByteArray.empty, []⟩ : CellA)]
def lo2 : List OpA := [(⟨1, (⟨#[97, 98]⟩ : ByteArray), 0, 0, ByteArray.empty, 0, []⟩ : OpA), (⟨2, (⟨#[105, 109, 97, 103, 101]⟩ : ByteArray), 0, 0, ByteArray.empty, 0, []⟩ : OpA)]
theorem lc3_of : (B.cOf lc3).2 = 0 := by kernel_rfl
theorem lc3_can : B.can (lc3.map B.opC) = lo2 := by kernel_rfl
theorem cz_lit {r : Int} {k : ByteArray} (h : k.size ≤ 100) : B.cellSz ⟨r, k, 0, 0, ByteArray.empty, []⟩ := ⟨Nat.le_trans h (by decide), Nat.zero_le _, Nat.zero_le _, fun i hi => absurd hi (Nat.not_lt_zero _)⟩
theorem lc3_sz : ∀ i, i < lc3.length → B.cellSz (lc3.getD i cell0) := by
 intro i hi
 match i, hi with
 | 0, _ => exact cz_lit (by decide)
 | 1, _ => exact cz_lit (by decide)
 | 2, _ => exact cz_lit (by decide)
 | k + 3, h => exact absurd h (by show ¬ k + 3 < 3; omega)
/-- what a law knows of the delta of cells -/
theorem cell_facts {cs : List CellA} (h : (B.cOf cs).2 = 0) (hn : cs.length ≤ 500000) (hz : ∀ i, i < cs.length → B.cellSz (cs.getD i cell0)) : badE (B.can (cs.map B.opC)) = 0 ∧ (B.can (cs.map B.opC)).length ≤ 1100000 ∧ (∀ i, i < (B.can (cs.map B.opC)).length → opSz ((B.can (cs.map B.opC)).getD i op0)) := by
 have hg := B.cOf_ok h
 obtain ⟨h1, h2⟩ := docSz hg hz
 have hl : (cs.map B.opC).length = cs.length := List.length_map ..
 obtain ⟨a, b, c, _⟩ := can_facts (xs := cs.map B.opC) (by rw [B.doc_of hg (by omega)]) (by omega) h1 (by omega)
 exact ⟨a, b, c⟩
theorem lives9_any (w : World) (hT : Tabs w) (es : List Addr) (hE : ErrsO w es) : Calls Tryd.prog 5 #[] w fun e w' => e = .returned (.bool true) ∧ Below w.heap.size w w' := by
 obtain ⟨hcb, hcn, hcz⟩ := cell_facts lc3_of (by decide) lc3_sz
 refine RX.enter Tryd.func5 rfl 26 rfl [] rfl (by kernel_rfl) (fun R_ hR_ => ?_)
 refine sq (rg (xe0 1 [] ?_))
 refine nl (sq (rg (xwe 4 [] [(8, .slice (some ⟨w.heap.size, 0, none⟩) 3 3)] (w.alloc (.cells #[.int .i32 97, .string ByteArray.empty, .int .i64 0, .int .i64 0, .string ByteArray.empty, .slice none 0 0, .int .i32 98, .string ByteArray.empty, .int .i64 0, .int .i64 0, .string ByteArray.empty, .slice none 0 0, .int .i32 (-1), .string (⟨#[105, 109, 97, 103, 101]⟩ : ByteArray), .int .i64 0, .int .i64 0, .string ByteArray.empty, .slice none 0 0] 44)) [] trivial ?_)))
 obtain ⟨w_1, hw_5, hb_2, hk_3, hz_4⟩ := new_world w #[.int .i32 97, .string ByteArray.empty, .int .i64 0, .int .i64 0, .string ByteArray.empty, .slice none 0 0, .int .i32 98, .string ByteArray.empty, .int .i64 0, .int .i64 0, .string ByteArray.empty, .slice none 0 0, .int .i32 (-1), .string (⟨#[105, 109, 97, 103, 101]⟩ : ByteArray), .int .i64 0, .int .i64 0, .string ByteArray.empty, .slice none 0 0] 44
 rw [hw_5]
 have hr_6 := Kd.R_litB kCell (W := w) (e := 44) (cs := #[.int .i32 97, .string ByteArray.empty, .int .i64 0, .int .i64 0, .string ByteArray.empty, .slice none 0 0, .int .i32 98, .string ByteArray.empty, .int .i64 0, .int .i64 0, .string ByteArray.empty, .slice none 0 0, .int .i32 (-1), .string (⟨#[105, 109, 97, 103, 101]⟩ : ByteArray), .int .i64 0, .int .i64 0, .string ByteArray.empty, .slice none 0 0]) [(⟨97, ByteArray.empty, 0, 0, ByteArray.empty, []⟩ : CellA), (⟨98, ByteArray.empty, 0, 0, ByteArray.empty, []⟩ : CellA), (⟨(-1), (⟨#[105, 109, 97, 103, 101]⟩ : ByteArray), 0, 0, ByteArray.empty, []⟩ : CellA)] hk_3 (repsCells0 [(⟨97, ByteArray.empty, 0, 0, ByteArray.empty, []⟩ : CellA), (⟨98, ByteArray.empty, 0, 0, ByteArray.empty, []⟩ : CellA), (⟨(-1), (⟨#[105, 109, 97, 103, 101]⟩ : ByteArray), 0, 0, ByteArray.empty, []⟩ : CellA)] (by intro x hx; simp only [List.mem_cons, List.not_mem_nil, or_false] at hx; rcases hx with rfl | rfl | rfl <;> rfl)) (Nat.le_of_ble_eq_true (by kernel_rfl))
 refine xc 19 ent19 [.slice (some ⟨w.heap.size, 0, none⟩) 3 3] (c9of_any _ 3 lc3 _ (Kd.R_C hr_6) (Nat.le_of_ble_eq_true rfl) (Nat.le_of_ble_eq_true rfl) lc3_sz (hT.below hb_2) es (hE.below hb_2)) ?_
 rintro e w_7 ⟨hb_11, ⟨h0_12, d, A_8, c_9, rfl, hd_10⟩ | ⟨h0_12, rfl⟩⟩
 ·refine ⟨_, rfl, ?_⟩
  refine xe0 7 [(1, pw d 0), (2, .int .i64 0), (3, .nilIface)] ?_
  refine nl (sq (rg (xwe 11 [] [(19, .bool true), (20, pw d 0), (23, .slice (some ⟨w_7.heap.size, 0, none⟩) 2 2)] (w_7.alloc (.cells #[.int .i64 1, .string (⟨#[97, 98]⟩ : ByteArray), .int .i64 0, .int .i64 0, .string ByteArray.empty, .int .i64 0, .slice none 0 0, .int .i64 2, .string (⟨#[105, 109, 97, 103, 101]⟩ : ByteArray), .int .i64 0, .int .i64 0, .string ByteArray.empty, .int .i64 0, .slice none 0 0] 59)) [] trivial ?_)))
  obtain ⟨w_13, hw_17, hb_14, hk_15, hz_16⟩ := new_world w_7 #[.int .i64 1, .string (⟨#[97, 98]⟩ : ByteArray), .int .i64 0, .int .i64 0, .string ByteArray.empty, .int .i64 0, .slice none 0 0, .int .i64 2, .string (⟨#[105, 109, 97, 103, 101]⟩ : ByteArray), .int .i64 0, .int .i64 0, .string ByteArray.empty, .int .i64 0, .slice none 0 0] 59
  rw [hw_17]
  have hr_18 := Kd.R_litB kOp (W := w_7) (e := 59) (cs := #[.int .i64 1, .string (⟨#[97, 98]⟩ : ByteArray), .int .i64 0, .int .i64 0, .string ByteArray.empty, .int .i64 0, .slice none 0 0, .int .i64 2, .string (⟨#[105, 109, 97, 103, 101]⟩ : ByteArray), .int .i64 0, .int .i64 0, .string ByteArray.empty, .int .i64 0, .slice none 0 0]) [(⟨1, (⟨#[97, 98]⟩ : ByteArray), 0, 0, ByteArray.empty, 0, []⟩ : OpA), (⟨2, (⟨#[105, 109, 97, 103, 101]⟩ : ByteArray), 0, 0, ByteArray.empty, 0, []⟩ : OpA)] hk_15 (repsOp0 [(⟨1, (⟨#[97, 98]⟩ : ByteArray), 0, 0, ByteArray.empty, 0, []⟩ : OpA), (⟨2, (⟨#[105, 109, 97, 103, 101]⟩ : ByteArray), 0, 0, ByteArray.empty, 0, []⟩ : OpA)] (by intro x hx; simp only [List.mem_cons, List.not_mem_nil, or_false] at hx; rcases hx with rfl | rfl <;> rfl)) (Nat.le_of_ble_eq_true (by kernel_rfl))
  refine xc 23 ent23 [.pointer (some ⟨d, 0, none⟩), .slice (some ⟨w_7.heap.size, 0, none⟩) 2 2] (his_any d (B.can (lc3.map B.opC)) lo2 _ _ _ (hd_10.c.below hb_14) hcb hcn hcz (Kd.R_C hr_18)) ?_
  rintro e w_19 ⟨rfl, hb_20⟩; refine ⟨_, rfl, ?_⟩
  rw [(opsEqP_iff _ _).2 lc3_can]
  refine xe0 2 [(0, .bool true)] ?_
  refine nl (X_ret (rk [.bool true] (hR_ _ _ ?_)))
  exact ⟨rfl, (bt (bt (bt hb_2 hb_11) hb_14) hb_20)⟩
 exact absurd lc3_of h0_12
end Go.Proofs.YtgphmfnkeolbcaaDoor
/- Rows of cells whose attributes lie elsewhere: one cell read. No condition. -/

set_option linter.unusedVariables false
set_option linter.unusedSimpArgs false
namespace Go.Proofs.YtgphmfnkeolbcaaDoor.RX
open Go Go.RowKit Go.Proofs.YtgphmfnkeolbcaaDoorW.PrintWords
theorem MixK.cell {e B : Nat} {W0 w : World} {A : Option Addr} {n c : Nat} {xs : List CellA} (h : MixK kCell cell0 e B W0 w A n c xs) {i : Int} (h0 : 0 ≤ i) (h1 : i < n) : ∃ ad B c, A = some ad ∧ CellsAt w (ad.add (i.toNat * 6)) (cellV (xs.getD i.toNat cell0) B c) ∧ (xs.getD i.toNat cell0).attrs.length ≤ c ∧ kAttr.C W0 B (xs.getD i.toNat cell0).attrs.length (xs.getD i.toNat cell0).attrs := by
  obtain ⟨ad, cs, e1, hc, hK⟩ := h.at h0 h1
  obtain ⟨B, c, rfl, hl, hC⟩ := kCell_K hK
  exact ⟨ad, B, c, e1, hc, hl, hC⟩
end Go.Proofs.YtgphmfnkeolbcaaDoor.RX
