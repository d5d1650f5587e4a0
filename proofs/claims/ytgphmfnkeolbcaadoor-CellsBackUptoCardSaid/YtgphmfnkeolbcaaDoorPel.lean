import Derived.Test.YtgphmfnkeolbcaaDoorCel
import Derived.Test.YtgphmfnkeolbcaaDoorPrm
/- What cells.Each hands over: number, cell, where its attributes lie. No condition. -/
set_option linter.unusedVariables false
set_option linter.unusedSimpArgs false
namespace Go.Proofs.YtgphmfnkeolbcaaDoor
open Go Go.RowKit Go.Proofs.YtgphmfnkeolbcaaDoorW.PrintWords RX
abbrev ElA := Int × CellA × Option Addr × Nat
def el0 : ElA := (0, cell0, none, 0)
def elV (x : ElA) : Array Value := #[.int .i64 x.1, .agg #[.int .i32 x.2.1.rune, .string x.2.1.kind, .int .i64 x.2.1.vk, .int .i64 x.2.1.vn, .string x.2.1.vt, .slice x.2.2.1 x.2.1.attrs.length x.2.2.2]]
/-- its attributes are memory made since n0 -/
def ElPx (n0 : Nat) (x : ElA) (W : World) : Prop := 0 ≤ x.1 ∧ ∃ wb : World, n0 ≤ wb.heap.size ∧ x.2.1.attrs.length ≤ x.2.2.2 ∧ kAttr.R 93 W wb.heap.size (OkFrom wb.heap.size) (.slice x.2.2.1 x.2.1.attrs.length x.2.2.2) x.2.1.attrs
/-- what came is a beginning of L -/
def EOK (L : List CellA) (pre : List ElA) : Prop := pre.length ≤ L.length ∧ ∀ t, t < pre.length → (pre.getD t el0).1 = (t : Int) ∧ (pre.getD t el0).2.1 = L.getD t cell0
theorem EOK.nil (L : List CellA) : EOK L [] := ⟨Nat.zero_le _, fun t ht => by simp at ht⟩
theorem EOK.snoc {L : List CellA} {pre : List ElA} {x : ElA} (h : EOK L pre) (hl : pre.length < L.length) (h1 : x.1 = (pre.length : Int)) (h2 : x.2.1 = L.getD pre.length cell0) : EOK L (pre ++ [x]) := by
  refine ⟨by rw [List.length_append, List.length_singleton]; exact hl, fun t ht => ?_⟩
  rw [List.length_append, List.length_singleton] at ht
  rcases Nat.lt_or_ge t pre.length with h3 | h3
  · have e : (pre ++ [x]).getD t el0 = pre.getD t el0 := by rw [List.getD_eq_getElem?_getD, List.getElem?_append_left h3, List.getD_eq_getElem?_getD]
    rw [e]; exact h.2 t h3
  · obtain rfl : t = pre.length := by omega
    have e : (pre ++ [x]).getD pre.length el0 = x := by simp [List.getD_eq_getElem?_getD]
    rw [e]; exact ⟨h1, h2⟩
theorem EOK.last {L : List CellA} {pre : List ElA} {x : ElA} (h : EOK L (pre ++ [x])) : pre.length < L.length ∧ x.1 = (pre.length : Int) ∧ x.2.1 = L.getD pre.length cell0 := by
  have h1 := h.1
  rw [List.length_append, List.length_singleton] at h1
  have h2 := h.2 pre.length (by simp)
  have e : (pre ++ [x]).getD pre.length el0 = x := by simp [List.getD_eq_getElem?_getD]
  rw [e] at h2
  exact ⟨h1, h2.1, h2.2⟩
/-- a call of yield, as the iterator may rely on it -/
def YD (D : Nat → Prop) (P : Program) (lp n0 : Nat) (J : List ElA → (Nat → Prop) → World → Prop) (Jx : List ElA → World → Prop) (Q : Nat) : Prop :=
  ∀ pre M x W1, J pre M W1 → ElPx n0 x W1 → pre.length < Q → YieldAt Fence.wide 1 P lp (elV x) W1 fun e W' =>
    (e = .returned (.bool true) ∧ ∃ M', J (pre ++ [x]) M' W' ∧ KpM D M W1 W' ∧ (∀ k, M' k → M k ∨ W1.heap.size ≤ k)) ∨ (e = .returned (.bool false) ∧ Jx (pre ++ [x]) W')
/-- what a function that hands one cell over leaves -/
def ToldR (D : Nat → Prop) (J : List ElA → (Nat → Prop) → World → Prop) (Jx : List ElA → World → Prop) (pre : List ElA) (M : Nat → Prop) (n : Nat) (cl : CellA) (W1 : World) (e : Ending) (W' : World) : Prop :=
  ∃ x : ElA, x.1 = (n : Int) ∧ x.2.1 = cl ∧ ((e = .returned (.bool true) ∧ ∃ M', J (pre ++ [x]) M' W' ∧ KpM D M W1 W' ∧ (∀ k, M' k → M k ∨ W1.heap.size ≤ k)) ∨ (e = .returned (.bool false) ∧ Jx (pre ++ [x]) W'))
theorem cellsAll_le (xs : List OpA) (i : Nat) : (cellsAll (xs.take i)).length ≤ (cellsAll xs).length := by
  have h : xs.flatMap cellsP = (xs.take i).flatMap cellsP ++ (xs.drop i).flatMap cellsP := by rw [← List.flatMap_append, List.take_append_drop]
  unfold cellsAll
  rw [h, List.length_append]
  omega
theorem cellsAll_at {xs : List OpA} {i j n : Nat} (hi : i < xs.length) (hj : j < (cellsP (xs.getD i op0)).length) (hn : n = (cellsAll (xs.take i)).length + j) : (cellsP (xs.getD i op0)).getD j cell0 = (cellsAll xs).getD n cell0 := by
  subst hn
  have h : xs.flatMap cellsP = (xs.take i).flatMap cellsP ++ (cellsP (xs.getD i op0) ++ (xs.drop (i + 1)).flatMap cellsP) := by
    have e : xs = xs.take i ++ (xs.getD i op0 :: xs.drop (i + 1)) := by
      rw [List.getD_eq_getElem?_getD, List.getElem?_eq_getElem hi, Option.getD_some, ← List.drop_eq_getElem_cons hi, List.take_append_drop]
    conv => lhs; rw [e]
    rw [List.flatMap_append, List.flatMap_cons]
  unfold cellsAll
  rw [h]
  generalize cellsP (xs.getD i op0) = u at hj ⊢
  rw [List.getD_eq_getElem?_getD, List.getD_eq_getElem?_getD, List.getElem?_append_right (by omega), Nat.add_sub_cancel_left, List.getElem?_append_left hj]
theorem cellsP_len {o : OpA} (hz : opSz o) {j : Nat} (hj : j < (cellsP o).length) : ((cellsP o).getD j cell0).attrs.length ≤ 100000000 := by
  have hz3 := hz.2.2.1
  by_cases hk : o.kind = 2
  · rw [cellsP_2 hk] at hj ⊢
    obtain rfl : j = 0 := by simpa using hj
    exact Nat.le_trans hz3 (by decide)
  · unfold cellsP at hj ⊢
    rw [if_neg hk] at hj ⊢
    rw [List.length_map] at hj
    rw [List.getD_eq_getElem?_getD, List.getElem?_map, List.getElem?_eq_getElem hj]
    exact Nat.le_trans hz3 (by decide)
theorem ownFrom_px {B n0 : Nat} : OwnFrom B (fun x W => ElPx n0 x W) := by
  rintro x W W' row ⟨h0, wb, h1, h2, h3⟩ hg hr
  exact ⟨h0, wb, h1, h2, RX.ownFrom_R (β := Unit) (B := B) kAttr 93 wb.heap.size (fun _ => .slice x.2.2.1 x.2.1.attrs.length x.2.2.2) (fun _ => x.2.1.attrs) () W W' row h3 hg hr⟩
theorem ElPx.below {n0 : Nat} {x : ElA} {W W' : World} (hb : Below W.heap.size W W') (h : ElPx n0 x W) : ElPx n0 x W' := by
  obtain ⟨h0, wb, h1, h2, h3⟩ := h
  exact ⟨h0, wb, h1, h2, Kd.R_below h3 hb⟩
theorem KpM.grown {D M : Nat → Prop} {A B : World} {row : Option Nat} (hg : A.grownBy B row) (hr : ∀ k, row = some k → M k ∧ ¬ D k) (hn : ∀ k, D k → k < A.heap.size) : KpM D M A B :=
  ⟨hg.os, hg.tape, hg.output, hg.size, fun k hk => hg.block k (hn k hk) fun e => (hr k e.symm).2 hk, fun k o hk _ hM => (hg.block k (Array.getElem?_eq_some_iff.1 hk).1 fun e => hM (hr k e.symm).1).trans hk⟩
theorem keeps_row {α : Type} {d : Kd α} {e B base : Nat} {ok : Nat → Prop} {W W' : World} {A : Option Addr} {n c : Nat} {xs : List α} (hR : d.R e W base ok (.slice A n c) xs) (hg : W.grownBy W' (A.map (·.block))) : KeepsFrom B W W' := by
  refine ⟨hg.size, fun k o _ hk ho => (hg.block k (Array.getElem?_eq_some_iff.1 hk).1 fun e => ?_).trans hk⟩
  obtain ⟨inner, hw⟩ := Kd.R_own hR
  obtain ⟨cells, hc⟩ := own_typed hw k (by rw [ownB]; exact e.symm)
  rw [hk] at hc
  injection hc with hc
  subst hc
  cases ho
theorem EOK.all {L : List CellA} {xs : List ElA} (h : EOK L xs) (hl : xs.length = L.length) : xs.map (fun x : ElA => x.2.1) = L := by
  refine List.ext_getElem (by rw [List.length_map, hl]) fun t h1 h2 => ?_
  rw [List.length_map] at h1
  have := (h.2 t h1).2
  rw [List.getElem_map]
  simpa [List.getD_eq_getElem?_getD, List.getElem?_eq_getElem h1, List.getElem?_eq_getElem h2] using this
/-- what an iterator over a document needs kept: what lay before the loop's variables, and what it has made itself -/
def DI (n lo hi : Nat) : Nat → Prop := fun k => k < n ∨ (lo ≤ k ∧ k < hi)
/-- a loop that gathers cells in a boxed slice -/
def RowI (w : World) (g6 hi : Nat) (pre : List ElA) (M : Nat → Prop) (W : World) : Prop :=
  ∃ zs A6 c6, zs = pre.map (fun x : ElA => x.2.1) ∧ RX.Blk W g6 28 #[.slice A6 zs.length c6] ∧ kCell.R 44 W w.heap.size (OkFrom w.heap.size) (.slice A6 zs.length c6) zs ∧ M = (fun k => k = g6 ∨ A6.map (·.block) = some k) ∧ (∀ k, A6.map (·.block) = some k → hi ≤ k) ∧ Below w.heap.size w W
theorem RowI.own {w : World} {g6 hi B : Nat} (h : w.heap.size ≤ B) (M : Nat → Prop) : OwnFrom B (fun s W => RowI w g6 hi s M W) := by
  rintro s W W' row ⟨zs, A6, c6, h1, h2, h3, h4, h5, h6⟩ hg hr
  exact ⟨zs, A6, c6, h1, RX.ownFrom_blk (β := Unit) (B := B) (fun _ => g6) _ (fun _ => _) () W W' row h2 hg hr, RX.ownFrom_R (β := Unit) (B := B) kCell _ w.heap.size (fun _ => _) (fun _ => zs) () W W' row h3 hg hr, h4, h5, RX.ownFrom_below' (β := Unit) w h () W W' row h6 hg hr⟩
theorem RowI.im {w : World} {g6 lo hi : Nat} {pre : List ElA} {M : Nat → Prop} {W : World} (h : RowI w g6 hi pre M W) (h1 : w.heap.size ≤ g6) (h2 : g6 < lo) (h3 : lo ≤ hi) : ∀ k, M k → ¬ DI w.heap.size lo hi k ∧ k < W.heap.size := by
  obtain ⟨zs, A6, c6, e1, e2, e3, rfl, e5, e6⟩ := h
  rintro k (rfl | hk)
  · exact ⟨fun h => by rcases h with h | h <;> omega, e2.lt⟩
  · have := e5 k hk
    have hl := Kd.R_lt e3 k hk
    exact ⟨fun h => by rcases h with h | h <;> omega, hl⟩
theorem Off.row {α : Type} {d : Kd α} {e base : Nat} {ok : Nat → Prop} {ds : List Nat} {w w' : World} {v : Value} {xs : List α} (h : Off ds w w') (hD : Defs ds w) (hR : d.R e w base ok v xs) : d.R e w' base ok v xs :=
  Kd.R_mono (Kd.R_move (Kd.R_bound hR) fun k hk => by
    obtain ⟨_, _, _, q, _, cells, hc⟩ := hk
    exact (RX.Off.blk h hD (show RX.Blk w k q cells from hc)).trans hc.symm) fun _ hk => hk.1
end Go.Proofs.YtgphmfnkeolbcaaDoor
/- What walk.Each hands over: pieces as values; lengths. No condition. -/

set_option linter.unusedVariables false
set_option linter.unusedSimpArgs false
namespace Go.Proofs.YtgphmfnkeolbcaaDoor
open Go Go.RowKit Go.Proofs.YtgphmfnkeolbcaaDoorW.PrintWords RX
inductive PEl
  | ins (A : Option Addr) (n c : Nat) (t : ByteArray) (k : Int)
  | emb (A : Option Addr) (n c : Nat) (t : ByteArray) (v : Value)
  | ret (A : Option Addr) (n c : Nat) (k : Int)
  | del (k : Int)
def PEl.val : PEl → Value
  | .ins A n c t k => .iface 139 (.agg #[.slice A n c, .string t, .int .i64 k])
  | .emb A n c t v => .iface 143 (.agg #[.slice A n c, .string t, v])
  | .ret A n c k => .iface 101 (.agg #[.slice A n c, .int .i64 k])
  | .del k => .iface 103 (.agg #[.int .i64 k])
/-- its kind and its length -/
def PEl.op : PEl → Int × Int
  | .ins _ _ _ _ k => (1, k)
  | .emb _ _ _ _ _ => (2, 1)
  | .ret _ _ _ k => (3, k)
  | .del k => (4, k)
noncomputable def pelO (o : OpA) : Int × Int := (o.kind, if o.kind = 1 then ((U.sc o.text).length : Int) else if o.kind = 2 then 1 else o.count)
theorem pel_of {w : World} {o : OpA} {cs : List Value} (h : kPiece.K w (pOf o) cs) (ho : pErr o = 0) : ∃ x : PEl, cs = [x.val] ∧ x.op = pelO o := by
  rcases kind_of_ok ho with hk | hk | hk | hk
  · rw [pOf_ins hk] at h
    obtain ⟨A, c, rfl, _⟩ := kPiece_ins h
    exact ⟨.ins A o.attrs.length c o.text _, rfl, by unfold PEl.op pelO; rw [hk]; rfl⟩
  · rw [pOf_emb hk] at h
    obtain ⟨A, c, rfl, _⟩ := kPiece_emb h
    exact ⟨.emb A o.attrs.length c o.text _, rfl, by unfold PEl.op pelO; rw [hk]; rfl⟩
  · rw [pOf_ret hk] at h
    obtain ⟨A, c, rfl, _⟩ := kPiece_ret h
    exact ⟨.ret A o.attrs.length c o.count, rfl, by unfold PEl.op pelO; rw [hk]; rfl⟩
  · rw [pOf_del hk] at h
    obtain rfl := kPiece_del h
    exact ⟨.del o.count, rfl, by unfold PEl.op pelO; rw [hk]; rfl⟩
/-- what came is a beginning -/
def POK (ops : List OpA) (pre : List PEl) : Prop := pre.map PEl.op = (ops.take pre.length).map pelO
theorem POK.snoc {ops : List OpA} {pre : List PEl} {x : PEl} (h : POK ops pre) (hl : pre.length < ops.length) (hx : x.op = pelO (ops.getD pre.length op0)) : POK ops (pre ++ [x]) := by
  unfold POK at h ⊢
  rw [List.map_append, h, List.length_append, List.length_singleton, take_op hl, List.map_append, List.map_cons, List.map_nil, List.map_cons, List.map_nil, hx]
/-- inserted, retained, deleted, as the machine adds them -/
def stepL (s : Int × Int × Int) (p : Int × Int) : Int × Int × Int :=
  if p.1 = 3 then (s.1, IntKind.i64.wrap (s.2.1 + p.2), s.2.2) else if p.1 = 4 then (s.1, s.2.1, IntKind.i64.wrap (s.2.2 + p.2)) else (IntKind.i64.wrap (s.1 + p.2), s.2.1, s.2.2)
def sumL (ps : List (Int × Int)) : Int × Int × Int := ps.foldl stepL (0, 0, 0)
theorem sumL_snoc (ps : List (Int × Int)) (p : Int × Int) : sumL (ps ++ [p]) = stepL (sumL ps) p := by unfold sumL; rw [List.foldl_append]; rfl
def LenI (w : World) (c5 c6 c7 : Nat) (pre : List PEl) (M : Nat → Prop) (W : World) : Prop :=
  RX.Blk W c5 3 #[.int .i64 (sumL (pre.map PEl.op)).1] ∧ RX.Blk W c6 3 #[.int .i64 (sumL (pre.map PEl.op)).2.1] ∧ RX.Blk W c7 3 #[.int .i64 (sumL (pre.map PEl.op)).2.2] ∧ M = (fun k => k = c5 ∨ k = c6 ∨ k = c7) ∧ Below w.heap.size w W
theorem LenI.own {w : World} {c5 c6 c7 B : Nat} (h : w.heap.size ≤ B) (M : Nat → Prop) : OwnFrom B (fun s W => LenI w c5 c6 c7 s M W) := by
  rintro s W W' row ⟨h1, h2, h3, h4, h5⟩ hg hr
  exact ⟨RX.ownFrom_blk (β := Unit) (B := B) (fun _ => c5) _ (fun _ => _) () W W' row h1 hg hr, RX.ownFrom_blk (β := Unit) (B := B) (fun _ => c6) _ (fun _ => _) () W W' row h2 hg hr, RX.ownFrom_blk (β := Unit) (B := B) (fun _ => c7) _ (fun _ => _) () W W' row h3 hg hr, h4, RX.ownFrom_below' (β := Unit) w h () W W' row h5 hg hr⟩
theorem LenI.im {w : World} {c5 c6 c7 lo hi : Nat} {pre : List PEl} {M : Nat → Prop} {W : World} (h : LenI w c5 c6 c7 pre M W) (h5 : w.heap.size ≤ c5 ∧ c5 < lo) (h6 : w.heap.size ≤ c6 ∧ c6 < lo) (h7 : w.heap.size ≤ c7 ∧ c7 < lo) : ∀ k, M k → ¬ DI w.heap.size lo hi k ∧ k < W.heap.size := by
  obtain ⟨e5, e6, e7, rfl, _⟩ := h
  rintro k (rfl | rfl | rfl)
  · exact ⟨fun h => by rcases h with h | h <;> omega, e5.lt⟩
  · exact ⟨fun h => by rcases h with h | h <;> omega, e6.lt⟩
  · exact ⟨fun h => by rcases h with h | h <;> omega, e7.lt⟩
theorem len_snoc (pre : List PEl) (x : PEl) : sumL ((pre ++ [x]).map PEl.op) = stepL (sumL (pre.map PEl.op)) x.op := by rw [List.map_append]; exact sumL_snoc _ _
end Go.Proofs.YtgphmfnkeolbcaaDoor
