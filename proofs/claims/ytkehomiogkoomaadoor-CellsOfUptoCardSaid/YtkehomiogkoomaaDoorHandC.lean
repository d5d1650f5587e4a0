import Derived.Test.YtkehomiogkoomaaDoorT13
import Derived.Test.YtkehomiogkoomaaDoorMixP
import Derived.Test.YtkehomiogkoomaaDoorCls
/- What vellumhand.OverAttrs and OverOps write over. Conditions: sizes. -/
set_option linter.unusedVariables false
set_option linter.unusedSimpArgs false
set_option maxRecDepth 100000
namespace Go.Proofs.YtkehomiogkoomaaDoor
open Go Go.RowKit Go.Proofs.YtkehomiogkoomaaDoorW.PrintWords RX
theorem ent45 : Ent Tryd.prog 45 := ent_of Tryd.func45 (by kernel_rfl) rfl
theorem over_any (B : Option Addr) (m c : Nat) (ok : Nat → Prop) (w : World) (hok : ∀ g, w.heap.size ≤ g → ok g) (hL : LiesO 71 4 ok w B m c) (hm : m ≤ 100000000) : Calls Tryd.prog 45 #[.slice B m c] w fun e w' => e = .returned (.tuple #[]) ∧ SpoilO (· = 71) ok w w' := by
 refine RX.enter Tryd.func45 rfl 26 rfl [(0, .slice B m c)] rfl (by kernel_rfl) (fun R_ hR_ => ?_)
 refine sq (sq (rg (xe0 3 [(0, .slice B m c), (6, nv m), (7, .int .i64 0)] ?_)))
 refine nl (bk (X_loop (ι := Nat) (fun i => [(0, .slice B m c), (6, .int .i64 (m : Int)), (7, .int .i64 (i : Int))]) (fun i wl => i ≤ m ∧ LiesO 71 4 ok wl B m c ∧ SpoilO (· = 71) ok w wl) (fun i => m - i) 0 ⟨Nat.zero_le _, hL, (SpoilO.refl _ _ _)⟩ (by kernel_rfl) ?_))
 rintro i wl ⟨hi, hL1, hS1⟩
 refine sq (X_region ?_)
 by_cases c_1 : (i : Int) < (m : Int)
 ·refine xr 1 [(8, .eq (.bool true))] [(8, .bool true)] [] [Value.bool (decide ((i : Int) < (m : Int))) = Value.bool true] ⟨congrArg Value.bool (decide_eq_true (c_1)), trivial⟩ ?_
  refine nl (sq (ct (sk (sq (bk (sq (rg (xr0 2 [(2, nv i)] [8] ?_))))))))
  refine nl (rg (xr0 5 [(10, .slice B m c), (11, nv i), (14, .agg #[.string (⟨#[111, 118, 101, 114]⟩ : ByteArray), .int .i64 2, nv i, .string ByteArray.empty])] [2] ?_))
  obtain ⟨g_5, cs_6, ha_3, hg_7, hk_8, hs_9⟩ := LiesO.at hL1 (by omega)
  obtain ⟨ad_2, had_10⟩ : ∃ ad_, ad_ = (⟨g_5, 0, none⟩ : Addr) := ⟨_, rfl⟩
  rw [← had_10] at ha_3
  have hc_4 : True := trivial
  refine xr 1 [(15, .idx ad_2)] [(15, .pointer (some (ad_2.add ((i : Int).toNat * 4))))] [10, 11] [B = some ad_2, (0 : Int) ≤ (i : Int), (i : Int) < (m : Int)] ⟨ha_3, (by omega), (by omega), trivial⟩ ?_
  refine XL_spoilO (v := .agg #[.string (⟨#[111, 118, 101, 114]⟩ : ByteArray), .int .i64 2, .int .i64 (i : Int), .string ByteArray.empty]) rfl rfl rfl (n := (i : Int).toNat * 4) had_10 (by kernel_rfl) hk_8 hg_7 [.string (⟨#[111, 118, 101, 114]⟩ : ByteArray), .int .i64 2, .int .i64 (i : Int), .string ByteArray.empty] ⟨by kernel_rfl, by kernel_rfl⟩ (by kernel_rfl) (by simp only [List.length_cons, List.length_nil]; omega) (fun w_11 hw_12 => ?_)
  have hL_13 := LiesO.spoil hL1 (SpoilO.of_wrote (es := (· = 71)) hw_12 rfl)
  have hS_14 := SpoilO.trans hS1 (SpoilO.of_wrote hw_12 rfl)
  refine nl (rg (xr 2 [(16, .eq (.int .i64 ((i : Int) + 1)))] [(7, .int .i64 ((i : Int) + 1))] [14, 15] [Value.int .i64 (IntKind.i64.wrap ((i : Int) + 1)) = Value.int .i64 ((i : Int) + 1)] ⟨wr_i64 (by omega) (by omega), trivial⟩ ?_))
  refine nl ?_
  refine ⟨(i + 1), by kernel_rfl, ?_, ?_⟩
  ·exact ⟨by omega, hL_13, hS_14⟩
  (try dsimp only); omega
 refine xr 1 [(8, .eq (.bool false))] [(8, .bool false)] [] [Value.bool (decide ((i : Int) < (m : Int))) = Value.bool false] ⟨congrArg Value.bool (decide_eq_false (c_1)), trivial⟩ ?_
 refine nl (sq (cf (X_exit (sq (rg (xe0 2 [(3, .slice B m c)] ?_))))))
 refine nl (sq (rg (xr0 1 [(4, .int .i64 0)] [] ?_)))
 refine nl (bk (X_loop (ι := Nat × Option Addr × Nat × Nat) (fun ⟨k, B3, m3, c3⟩ => [(3, .slice B3 m3 c3), (4, .int .i64 (k : Int))]) (fun ⟨k, B3, m3, c3⟩ wm => k ≤ 20 ∧ m3 = m + k ∧ LiesO 71 4 ok wm B3 m3 c3 ∧ SpoilO (· = 71) ok w wm) (fun ⟨k, B3, m3, c3⟩ => 20 - k) (0, B, m, c) ⟨Nat.zero_le _, rfl, hL1, hS1⟩ (by kernel_rfl) ?_))
 rintro ⟨k, B3, m3, c3⟩ wm ⟨hk, hm3, hL2, hS2⟩
 refine sq (sq (rg (xr0 1 [(18, nv k)] [] ?_)))
 by_cases c_15 : (k : Int) < 20
 ·refine xr 1 [(19, .eq (.bool true))] [(19, .bool true)] [18] [Value.bool (decide ((k : Int) < 20)) = Value.bool true] ⟨congrArg Value.bool (decide_eq_true (c_15)), trivial⟩ ?_
  refine nl (ct (sk (sq (bk (rg (xw 3 [] [(22, .slice B3 m3 c3), (24, .slice (some ⟨wm.heap.size, 0, none⟩) 1 1)] [3, 19] (wm.alloc (.cells #[.string (⟨#[109, 111, 114, 101]⟩ : ByteArray), .int .i64 0, .int .i64 0, .string ByteArray.empty] 71)) [] trivial ?_))))))
  obtain ⟨w_16, hw_20, hb_17, hk_18, hz_19⟩ := new_world wm #[.string (⟨#[109, 111, 114, 101]⟩ : ByteArray), .int .i64 0, .int .i64 0, .string ByteArray.empty] 71
  rw [hw_20]
  rw [← hw_20]
  refine XL_appendLiesO rfl rfl rfl 71 (.agg #[.string ByteArray.empty, .int .i64 0, .int .i64 0, .string ByteArray.empty]) 4 48 Tryd.underlying45 info71 rfl (by decide) [.string (⟨#[109, 111, 114, 101]⟩ : ByteArray), .int .i64 0, .int .i64 0, .string ByteArray.empty] (by kernel_rfl) (by kernel_rfl) (by kernel_rfl) (fun g_ h_ => hok g_ (Nat.le_trans (hS2).size h_)) hL2 (by omega) (by omega) (fun A_21 c_22 w_23 hw_24 hL_25 => ?_)
  have hS_27 := SpoilO.trans hS2 (SpoilO.of_wrote hw_24 rfl)
  refine xe0 1 [(3, .slice A_21 (m3 + 1) c_22), (4, nv k)] ?_
  refine nl (rg (xr 3 [(21, .eq (.int .i64 ((k : Int) + 1)))] [(4, .int .i64 ((k : Int) + 1))] [] [Value.int .i64 (IntKind.i64.wrap ((k : Int) + 1)) = Value.int .i64 ((k : Int) + 1)] ⟨wr_i64 (by omega) (by omega), trivial⟩ ?_))
  refine nl ?_
  refine ⟨(k + 1, A_21, (m3 + 1), c_22), by kernel_rfl, ?_, ?_⟩
  ·exact ⟨by omega, by omega, hL_25, hS_27⟩
  (try dsimp only); omega
 refine xr 1 [(19, .eq (.bool false))] [(19, .bool false)] [18] [Value.bool (decide ((k : Int) < 20)) = Value.bool false] ⟨congrArg Value.bool (decide_eq_false (c_15)), trivial⟩ ?_
 refine nl (cf (X_exit (ek [] (hR_ _ _ ?_))))
 exact ⟨rfl, hS2⟩
end Go.Proofs.YtkehomiogkoomaaDoor
/- Cells with two spare attributes behind theirs; rows of cells that are written over. No condition. -/
set_option linter.unusedVariables false
set_option linter.unusedSimpArgs false
set_option maxRecDepth 100000
namespace Go.Proofs.YtkehomiogkoomaaDoor.RX
open Go Go.RowKit Go.Proofs.YtkehomiogkoomaaDoorW.PrintWords
def kCellH : Kd CellA := Kd.comap CellA.tup (Kd.pair (Kd.int .i32) (Kd.pair Kd.string (Kd.pair (Kd.pair (Kd.int .i64) (Kd.pair (Kd.int .i64) Kd.string)) kAttrsH)))
theorem kCellH_K {w : World} {x : CellA} {cs : List Value} (h : kCellH.K w x cs) : ∃ A c, cs = cellV x A c ∧ kAttrsH.K w x.attrs [.slice A x.attrs.length c] := by
  obtain ⟨_, _, rfl, rfl, _, _, rfl, rfl, _, _, rfl, ⟨_, _, rfl, rfl, _, _, rfl, rfl, rfl⟩, A, c, rfl, h⟩ := h
  exact ⟨A, c, rfl, A, c, rfl, h⟩
theorem kCellH_M {w : World} {base : Nat} {ok : Nat → Prop} {x : CellA} {B : Option Addr} {c : Nat} (h : kAttrsH.M w base ok x.attrs [.slice B x.attrs.length c]) : kCellH.M w base ok x (cellV x B c) :=
  ⟨[.int .i32 x.rune], _, rfl, rfl, [.string x.kind], _, rfl, rfl, [.int .i64 x.vk, .int .i64 x.vn, .string x.vt], _, rfl, ⟨[.int .i64 x.vk], _, rfl, rfl, [.int .i64 x.vn], _, rfl, rfl, rfl⟩, h⟩
theorem kCellH_M_slice {w : World} {base : Nat} {ok : Nat → Prop} {x : CellA} {cs : List Value} (h : kCellH.M w base ok x cs) : ∃ B c, cs = cellV x B c ∧ kAttrsH.M w base ok x.attrs [.slice B x.attrs.length c] := by
  obtain ⟨_, _, rfl, rfl, _, _, rfl, rfl, _, _, rfl, ⟨_, _, rfl, rfl, _, _, rfl, rfl, rfl⟩, A, c, rfl, h⟩ := h
  exact ⟨A, c, rfl, A, c, rfl, h⟩
theorem repsCellH0 {w : World} {base : Nat} {ok : Nat → Prop} : Reps (kCellH.M w base ok) 6 [] [] := Reps.none _ _
theorem repsCells0 {w : World} {base : Nat} {ok : Nat → Prop} : ∀ (xs : List CellA), (∀ x ∈ xs, x.attrs = []) → Reps (kCell.M w base ok) 6 xs (xs.flatMap fun x => cellV x none 0)
  | [], _ => Reps.none _ _
  | x :: xs, h => by
    have hs : Reps (kCell.M w base ok) 6 [x] (cellV x none 0) := by
      have := (Reps.none (kCell.M w base ok) 6).snoc (kCell_M0 x (h x List.mem_cons_self)) rfl
      simpa using this
    have := Kd.reps_append hs (repsCells0 xs fun y hy => h y (List.mem_cons_of_mem _ hy))
    simpa using this
theorem kCellH_C {w : World} {A : Option Addr} {n : Nat} {xs : List CellA} (h : kCellH.C w A n xs) : kCell.C w A n xs :=
  Kd.C_imp h rfl fun x cs hk => by
    obtain ⟨B, c, rfl, h⟩ := kCellH_K hk
    obtain ⟨h1, h2, _⟩ := kAttrsH_K h
    exact kCell_K_of h1 h2
theorem Kd.atCellH {w : World} {A : Option Addr} {n : Nat} {xs : List CellA} (h : kCellH.C w A n xs) {i : Int} (h0 : 0 ≤ i) (h1 : i < n) : ∃ ad B c, A = some ad ∧ CellsAt w (ad.add (i.toNat * 6)) (cellV (xs.getD i.toNat cell0) B c) ∧ (xs.getD i.toNat cell0).attrs.length ≤ c ∧ kAttr.C w B (xs.getD i.toNat cell0).attrs.length (xs.getD i.toNat cell0).attrs ∧ ((xs.getD i.toNat cell0).attrs = [] ∨ (xs.getD i.toNat cell0).attrs.length + 2 ≤ c ∧ kAttr.C w B ((xs.getD i.toNat cell0).attrs.length + 2) ((xs.getD i.toNat cell0).attrs ++ spL)) := by
  obtain ⟨ad, cs, e, hK, hc⟩ := Kd.atC h cell0 h0 h1
  obtain ⟨B, c, rfl, h⟩ := kCellH_K hK
  obtain ⟨a, b, d⟩ := kAttrsH_K h
  exact ⟨ad, B, c, e, hc, a, b, d⟩
/-- a row whose elements from i on end in slices that lie; p cells ahead of the slice -/
structure ShapeP (p e' e : Nat) (ok : Nat → Prop) (w : World) (A : Option Addr) (n c i : Nat) : Prop where
  o : LiesO e' (p + 1) ok w A n c
  r : ∀ j, i ≤ j → j < n → ∃ ad pre B m c2, A = some ad ∧ CellsAt w (ad.add (j * (p + 1))) (pre ++ [.slice B m c2]) ∧ pre.length = p ∧ LiesO e 4 ok w B m c2 ∧ m ≤ 100000000
section
variable {p e' e : Nat} {ok : Nat → Prop} {w w1 : World} {A : Option Addr} {n c i : Nat}
theorem ShapeP.next (h : ShapeP p e' e ok w A n c i) : ShapeP p e' e ok w A n c (i + 1) := ⟨h.o, fun j h1 h2 => h.r j (by omega) h2⟩
theorem ShapeP.below (hb : Below w.heap.size w w1) (h : ShapeP p e' e ok w A n c i) : ShapeP p e' e ok w1 A n c i := ⟨h.o.below hb, fun j h1 h2 => by
  obtain ⟨ad, pre, B, m, c2, a, b, d, e, q⟩ := h.r j h1 h2
  exact ⟨ad, pre, B, m, c2, a, cells_below b hb, d, e.below hb, q⟩⟩
theorem ShapeP.wr {ok' : Nat → Prop} (h : ShapeP p e' e ok w A n c i) (hw : SpoilO (· = e) ok' w w1) (hne : e' ≠ e) : ShapeP p e' e ok w1 A n c i := ⟨h.o.spoil hw, fun j h1 h2 => by
  obtain ⟨ad, pre, B, m, c2, a, b, d, k, q⟩ := h.r j h1 h2
  obtain ⟨g, cs, e1, _, hb, _⟩ := h.o.at (by omega)
  obtain rfl : ad = ⟨g, 0, none⟩ := by rw [a] at e1; injection e1
  exact ⟨_, pre, B, m, c2, a, cellsAt_blk (hw.other hb hne) (blk_cellsAt b hb), d, k.spoil hw, q⟩⟩
/-- element i has been written -/
theorem ShapeP.put (h : ShapeP p e' e ok w A n c (i + 1)) {g : Nat} {cs : Array Value} {vs : List Value} (hvs : vs.length = p + 1) (hA : A = some ⟨g, 0, none⟩) (hgk : ok g) (hb : RX.Blk w g e' cs) (hg : w.grownBy w1 (some g)) (hb1 : RX.Blk w1 g e' (setAll cs (i * (p + 1)) vs)) :
    WroteO e' ok w w1 ∧ ShapeP p e' e ok w1 A n c (i + 1) := by
  have hw : WroteO e' ok w w1 := ⟨some g, hg, fun k hk => by
    injection hk with hk
    subst hk
    exact ⟨hgk, cs, _, hb, hb1, setAll_size _ _ _⟩⟩
  have hs : SpoilO (· = e') ok w w1 := SpoilO.of_wrote hw rfl
  refine ⟨hw, h.o.spoil hs, fun j h1 h2 => ?_⟩
  obtain ⟨ad, pre, B, m, c2, a, b, d, k, hq⟩ := h.r j h1 h2
  obtain rfl : ad = ⟨g, 0, none⟩ := by rw [hA] at a; injection a with a; exact a.symm
  refine ⟨_, pre, B, m, c2, hA, cellsAt_blk hb1 fun q u hu => ?_, d, k.spoil hs, hq⟩
  have h3 : (i + 1) * (p + 1) ≤ j * (p + 1) := Nat.mul_le_mul_right _ h1
  rw [Nat.succ_mul] at h3
  rw [setAll_out _ _ _ _ (by omega)]
  exact blk_cellsAt b hb q u hu
end
theorem XL_putP {P : Program} {N : Nat} {ops : Array Oper} {qs : QS} {rest : List Oper} {o : Oper} {l : Slots} {w : World} {t : TypeId} {pp x : Operand} (ho : o.op = .store t pp x) (hdn : o.dst = none) (hg : gd ops l o = some true)
    {p e' e : Nat} {ok : Nat → Prop} {A : Option Addr} {n c i : Nat} {ad : Addr} {v : Value} (h : ShapeP p e' e ok w A n c (i + 1)) (hi0 : i < n) (hA : A = some ad) (hp : evs l [pp, x] = some [.pointer (some (ad.add (i * (p + 1)))), v])
    (vs : List Value) (hv : v.cells.toList = vs ∧ sizeP P t = some vs.length) (hvs : vs.length = p + 1) (h1 : vs.all (·.oneCell') = true)
    (hn : ∀ w1, WroteO e' ok w w1 → ShapeP p e' e ok w1 A n c (i + 1) → XL P N ops rest qs l w1) : XL P N ops (o :: rest) qs l w := by
  obtain ⟨g, cs, hA2, h2, hb, hs⟩ := h.o.at (by omega)
  obtain rfl : ad = ⟨g, 0, none⟩ := by rw [hA] at hA2; injection hA2
  have hadd : (⟨g, 0, none⟩ : Addr).add (i * (p + 1)) = ⟨g, i * (p + 1), none⟩ := by unfold Addr.add; split <;> simp_all
  rw [hadd] at hp
  have h3 : (i + 1) * (p + 1) ≤ n * (p + 1) := Nat.mul_le_mul_right _ hi0
  rw [Nat.succ_mul] at h3
  refine XL_store ho hdn hg hp hb _ vs _ ⟨hv.1, rfl, hv.2⟩ ⟨rfl, h1⟩ (by omega) fun w1 h6 h7 _ => ?_
  obtain ⟨h8, h9⟩ := h.put hvs hA h2 hb h6 h7
  exact hn w1 h8 h9
theorem shapeP_cellsH {e' base : Nat} {w : World} {A : Option Addr} {n c : Nat} {xs : List CellA} {ok : Nat → Prop} (h : kCellH.R e' w base (OkFrom base) (.slice A n c) xs) (hm : ∀ j, j < xs.length → (xs.getD j cell0).attrs.length ≤ 50000000) (hok : ∀ g, base ≤ g → g < w.heap.size → ok g) : ShapeP 5 e' 71 ok w A n c 0 := by
  have hb := Kd.R_bound h
  refine ⟨LiesO.of_R (d := kCellH) hb fun k h1 _ h3 => hok k h1 h3, fun j _ hj => ?_⟩
  obtain ⟨hn, hc⟩ := Kd.R_len h
  obtain ⟨vss, hR, hl, hM⟩ := Kd.R_raw cell0 hb
  obtain ⟨ad, cc, hA, hK, hcc⟩ := Kd.atC (Kd.R_C hR) [] (i := (j : Int)) (by omega) (by omega)
  obtain ⟨B, c2, e5, A', c', e6, hq⟩ := kCellH_M_slice (hM j (by omega))
  have e6 := (List.cons.inj e6).1
  injection e6 with e7 _ e8
  subst e7; subst e8
  obtain rfl : cc = vss.getD (j : Int).toNat [] := hK.1
  have h9 : CellsAt w (ad.add (j * 6)) (vss.getD j []) := hcc
  rw [e5] at h9
  refine ⟨ad, [_, _, _, _, _], B, _, c2, hA, h9, rfl, ?_, Nat.le_trans (hm j (by omega)) (by decide)⟩
  rcases hq with ⟨h1, h2, h3⟩ | hq
  · rw [h1, h2, h3]
    exact ⟨Nat.le_refl _, by decide, .inl ⟨rfl, rfl⟩⟩
  · obtain ⟨v, e9, hv⟩ := hq
    obtain rfl := (List.cons.inj e9).1
    exact (LiesO.of_R (d := kAttr) hv fun k h1 _ h3 => hok k h1 h3).less (Nat.le_add_right _ 2)
end Go.Proofs.YtkehomiogkoomaaDoor.RX
