import Derived.Test.YtgphmfnkeolbcaaDoorCel
import Derived.Test.YtgphmfnkeolbcaaDoorPrm
import Derived.Test.YtgphmfnkeolbcaaDoorIn
/- What cells.Each hands over: number, cell, where its attributes lie. No condition. -/
set_option linter.unusedVariables false
set_option linter.unusedSimpArgs false
namespace Go.Proofs.YtgphmfnkeolbcaaDoor
open Go Go.RowKit Go.Proofs.YtgphmfnkeolbcaaDoorW.PrintWords RX
abbrev ElA := Int × CellA × Option Addr × Nat
def el0 : ElA := (0, cell0, none, 0)
def elV (x : ElA) : Array Value := #[.int .i64 x.1, .agg #[.int .i32 x.2.1.rune, .string x.2.1.kind, .int .i64 x.2.1.vk, .int .i64 x.2.1.vn, .string x.2.1.vt, .slice x.2.2.1 x.2.1.attrs.length x.2.2.2]]
/-- its attributes are memory made since n0 -/
def ElPx (n0 : Nat) (x : ElA) (W : World) : Prop := 0 ≤ x.1 ∧ ∃ wb : World, n0 ≤ wb.heap.size ∧ x.2.1.attrs.length ≤ x.2.2.2 ∧ kAttr.R 93 W wb.heap.size (OkFrom wb.heap.size) (.slice x.2.2.1 x.2.1.attrs.length x.2.2.2) x.2.1.attrs
/-- what came is a beginning of L -/
def EOK (L : List CellA) (pre : List ElA) : Prop := pre.length ≤ L.length ∧ ∀ t, t < pre.length → (pre.getD t el0).1 = (t : Int) ∧ (pre.getD t el0).2.1 = L.getD t cell0
theorem EOK.nil (L : List CellA) : EOK L [] := ⟨Nat.zero_le _, fun t ht => by simp at ht⟩
theorem EOK.snoc {L : List CellA} {pre : List ElA} {x : ElA} (h : EOK L pre) (hl : pre.length < L.length) (h1 : x.1 = (pre.length : Int)) (h2 : x.2.1 = L.getD pre.length cell0) : EOK L (pre ++ [x]) := by
  refine ⟨by rw [List.length_append, List.length_singleton]; exact hl, fun t ht => ?_⟩
  rw [List.length_append, List.length_singleton] at ht
  rcases Nat.lt_or_ge t pre.length with h3 | h3
  · have e : (pre ++ [x]).getD t el0 = pre.getD t el0 := by rw [List.getD_eq_getElem?_getD, List.getElem?_append_left h3, List.getD_eq_getElem?_getD]
    rw [e]; exact h.2 t h3
  · obtain rfl : t = pre.length := by omega
    have e : (pre ++ [x]).getD pre.length el0 = x := by simp [List.getD_eq_getElem?_getD]
    rw [e]; exact ⟨h1, h2⟩
theorem EOK.last {L : List CellA} {pre : List ElA} {x : ElA} (h : EOK L (pre ++ [x])) : pre.length < L.length ∧ x.1 = (pre.length : Int) ∧ x.2.1 = L.getD pre.length cell0 := by
  have h1 := h.1
  rw [List.length_append, List.length_singleton] at h1
  have h2 := h.2 pre.length (by simp)
  have e : (pre ++ [x]).getD pre.length el0 = x := by simp [List.getD_eq_getElem?_getD]
  rw [e] at h2
  exact ⟨h1, h2.1, h2.2⟩
/-- a call of yield, as the iterator may rely on it -/
def YD (D : Nat → Prop) (P : Program) (lp n0 : Nat) (J : List ElA → (Nat → Prop) → World → Prop) (Jx : List ElA → World → Prop) (Q : Nat) : Prop :=
  ∀ pre M x W1, J pre M W1 → ElPx n0 x W1 → pre.length < Q → YieldAt Fence.wide 1 P lp (elV x) W1 fun e W' =>
    (e = .returned (.bool true) ∧ ∃ M', J (pre ++ [x]) M' W' ∧ KpM D M W1 W' ∧ (∀ k, M' k → M k ∨ W1.heap.size ≤ k)) ∨ (e = .returned (.bool false) ∧ Jx (pre ++ [x]) W')
/-- what a function that hands one cell over leaves -/
def ToldR (D : Nat → Prop) (J : List ElA → (Nat → Prop) → World → Prop) (Jx : List ElA → World → Prop) (pre : List ElA) (M : Nat → Prop) (n : Nat) (cl : CellA) (W1 : World) (e : Ending) (W' : World) : Prop :=
  ∃ x : ElA, x.1 = (n : Int) ∧ x.2.1 = cl ∧ ((e = .returned (.bool true) ∧ ∃ M', J (pre ++ [x]) M' W' ∧ KpM D M W1 W' ∧ (∀ k, M' k → M k ∨ W1.heap.size ≤ k)) ∨ (e = .returned (.bool false) ∧ Jx (pre ++ [x]) W'))
theorem cellsAll_le (xs : List OpA) (i : Nat) : (cellsAll (xs.take i)).length ≤ (cellsAll xs).length := by
  have h : xs.flatMap cellsP = (xs.take i).flatMap cellsP ++ (xs.drop i).flatMap cellsP := by rw [← List.flatMap_append, List.take_append_drop]
  unfold cellsAll
  rw [h, List.length_append]
  omega
theorem cellsAll_at {xs : List OpA} {i j n : Nat} (hi : i < xs.length) (hj : j < (cellsP (xs.getD i op0)).length) (hn : n = (cellsAll (xs.take i)).length + j) : (cellsP (xs.getD i op0)).getD j cell0 = (cellsAll xs).getD n cell0 := by
  subst hn
  have h : xs.flatMap cellsP = (xs.take i).flatMap cellsP ++ (cellsP (xs.getD i op0) ++ (xs.drop (i + 1)).flatMap cellsP) := by
    have e : xs = xs.take i ++ (xs.getD i op0 :: xs.drop (i + 1)) := by
      rw [List.getD_eq_getElem?_getD, List.getElem?_eq_getElem hi, Option.getD_some, ← List.drop_eq_getElem_cons hi, List.take_append_drop]
    conv => lhs; rw [e]
    rw [List.flatMap_append, List.flatMap_cons]
  unfold cellsAll
  rw [h]
  generalize cellsP (xs.getD i op0) = u at hj ⊢
  rw [List.getD_eq_getElem?_getD, List.getD_eq_getElem?_getD, List.getElem?_append_right (by omega), Nat.add_sub_cancel_left, List.getElem?_append_left hj]
theorem cellsP_len {o : OpA} (hz : opSz o) {j : Nat} (hj : j < (cellsP o).length) : ((cellsP o).getD j cell0).attrs.length ≤ 100000000 := by
  have hz3 := hz.2.2.1
  by_cases hk : o.kind = 2
  · rw [cellsP_2 hk] at hj ⊢
    obtain rfl : j = 0 := by simpa using hj
    exact Nat.le_trans hz3 (by decide)
  · unfold cellsP at hj ⊢
    rw [if_neg hk] at hj ⊢
    rw [List.length_map] at hj
    rw [List.getD_eq_getElem?_getD, List.getElem?_map, List.getElem?_eq_getElem hj]
    exact Nat.le_trans hz3 (by decide)
theorem ownFrom_px {B n0 : Nat} : OwnFrom B (fun x W => ElPx n0 x W) := by
  rintro x W W' row ⟨h0, wb, h1, h2, h3⟩ hg hr
  exact ⟨h0, wb, h1, h2, RX.ownFrom_R (β := Unit) (B := B) kAttr 93 wb.heap.size (fun _ => .slice x.2.2.1 x.2.1.attrs.length x.2.2.2) (fun _ => x.2.1.attrs) () W W' row h3 hg hr⟩
theorem ElPx.below {n0 : Nat} {x : ElA} {W W' : World} (hb : Below W.heap.size W W') (h : ElPx n0 x W) : ElPx n0 x W' := by
  obtain ⟨h0, wb, h1, h2, h3⟩ := h
  exact ⟨h0, wb, h1, h2, Kd.R_below h3 hb⟩
theorem KpM.grown {D M : Nat → Prop} {A B : World} {row : Option Nat} (hg : A.grownBy B row) (hr : ∀ k, row = some k → M k ∧ ¬ D k) (hn : ∀ k, D k → k < A.heap.size) : KpM D M A B :=
  ⟨hg.os, hg.tape, hg.output, hg.size, fun k hk => hg.block k (hn k hk) fun e => (hr k e.symm).2 hk, fun k o hk _ hM => (hg.block k (Array.getElem?_eq_some_iff.1 hk).1 fun e => hM (hr k e.symm).1).trans hk⟩
theorem keeps_row {α : Type} {d : Kd α} {e B base : Nat} {ok : Nat → Prop} {W W' : World} {A : Option Addr} {n c : Nat} {xs : List α} (hR : d.R e W base ok (.slice A n c) xs) (hg : W.grownBy W' (A.map (·.block))) : KeepsFrom B W W' := by
  refine ⟨hg.size, fun k o _ hk ho => (hg.block k (Array.getElem?_eq_some_iff.1 hk).1 fun e => ?_).trans hk⟩
  obtain ⟨inner, hw⟩ := Kd.R_own hR
  obtain ⟨cells, hc⟩ := own_typed hw k (by rw [ownB]; exact e.symm)
  rw [hk] at hc
  injection hc with hc
  subst hc
  cases ho
theorem EOK.all {L : List CellA} {xs : List ElA} (h : EOK L xs) (hl : xs.length = L.length) : xs.map (fun x : ElA => x.2.1) = L := by
  refine List.ext_getElem (by rw [List.length_map, hl]) fun t h1 h2 => ?_
  rw [List.length_map] at h1
  have := (h.2 t h1).2
  rw [List.getElem_map]
  simpa [List.getD_eq_getElem?_getD, List.getElem?_eq_getElem h1, List.getElem?_eq_getElem h2] using this
/-- what an iterator over a document needs kept: what lay before the loop's variables, and what it has made itself -/
def DI (n lo hi : Nat) : Nat → Prop := fun k => k < n ∨ (lo ≤ k ∧ k < hi)
/-- a loop that gathers cells in a boxed slice -/
def RowI (w : World) (g6 hi : Nat) (pre : List ElA) (M : Nat → Prop) (W : World) : Prop :=
  ∃ zs A6 c6, zs = pre.map (fun x : ElA => x.2.1) ∧ RX.Blk W g6 28 #[.slice A6 zs.length c6] ∧ kCell.R 44 W w.heap.size (OkFrom w.heap.size) (.slice A6 zs.length c6) zs ∧ M = (fun k => k = g6 ∨ A6.map (·.block) = some k) ∧ (∀ k, A6.map (·.block) = some k → hi ≤ k) ∧ Below w.heap.size w W
theorem RowI.own {w : World} {g6 hi B : Nat} (h : w.heap.size ≤ B) (M : Nat → Prop) : OwnFrom B (fun s W => RowI w g6 hi s M W) := by
  rintro s W W' row ⟨zs, A6, c6, h1, h2, h3, h4, h5, h6⟩ hg hr
  exact ⟨zs, A6, c6, h1, RX.ownFrom_blk (β := Unit) (B := B) (fun _ => g6) _ (fun _ => _) () W W' row h2 hg hr, RX.ownFrom_R (β := Unit) (B := B) kCell _ w.heap.size (fun _ => _) (fun _ => zs) () W W' row h3 hg hr, h4, h5, RX.ownFrom_below' (β := Unit) w h () W W' row h6 hg hr⟩
theorem RowI.im {w : World} {g6 lo hi : Nat} {pre : List ElA} {M : Nat → Prop} {W : World} (h : RowI w g6 hi pre M W) (h1 : w.heap.size ≤ g6) (h2 : g6 < lo) (h3 : lo ≤ hi) : ∀ k, M k → ¬ DI w.heap.size lo hi k ∧ k < W.heap.size := by
  obtain ⟨zs, A6, c6, e1, e2, e3, rfl, e5, e6⟩ := h
  rintro k (rfl | hk)
  · exact ⟨fun h => by rcases h with h | h <;> omega, e2.lt⟩
  · have := e5 k hk
    have hl := Kd.R_lt e3 k hk
    exact ⟨fun h => by rcases h with h | h <;> omega, hl⟩
theorem Off.row {α : Type} {d : Kd α} {e base : Nat} {ok : Nat → Prop} {ds : List Nat} {w w' : World} {v : Value} {xs : List α} (h : Off ds w w') (hD : Defs ds w) (hR : d.R e w base ok v xs) : d.R e w' base ok v xs :=
  Kd.R_mono (Kd.R_move (Kd.R_bound hR) fun k hk => by
    obtain ⟨_, _, _, q, _, cells, hc⟩ := hk
    exact (RX.Off.blk h hD (show RX.Blk w k q cells from hc)).trans hc.symm) fun _ hk => hk.1
theorem kCell_M_slice {w : World} {base : Nat} {ok : Nat → Prop} {x : CellA} {cs : List Value} (h : kCell.M w base ok x cs) : ∃ B c, cs = cellV x B c ∧ x.attrs.length ≤ c ∧ kAttr.R 93 w base ok (.slice B x.attrs.length c) x.attrs := by
  obtain ⟨_, _, rfl, rfl, _, _, rfl, rfl, _, _, rfl, ⟨_, _, rfl, rfl, _, _, rfl, rfl, rfl⟩, v, rfl, hR⟩ := h
  obtain ⟨A, c, rfl, hl, _⟩ := Kd.R_reads hR
  exact ⟨A, c, rfl, hl, hR⟩
/-- cell number i of a document: the cell, the error -/
noncomputable def atP (xs : List OpA) (i : Int) : CellA × Nat := if isDoc xs = true then (if i < 0 ∨ (cellsAll xs).length ≤ i then (cell0, 12) else ((cellsAll xs).getD i.toNat cell0, 0)) else (cell0, 9)
end Go.Proofs.YtgphmfnkeolbcaaDoor
/- What walk.Each hands over: pieces as values; lengths. No condition. -/

set_option linter.unusedVariables false
set_option linter.unusedSimpArgs false
namespace Go.Proofs.YtgphmfnkeolbcaaDoor
open Go Go.RowKit Go.Proofs.YtgphmfnkeolbcaaDoorW.PrintWords RX
inductive PEl
  | ins (A : Option Addr) (n c : Nat) (t : ByteArray) (k : Int)
  | emb (A : Option Addr) (n c : Nat) (t : ByteArray) (v : Value)
  | ret (A : Option Addr) (n c : Nat) (k : Int)
  | del (k : Int)
def PEl.val : PEl → Value
  | .ins A n c t k => .iface 139 (.agg #[.slice A n c, .string t, .int .i64 k])
  | .emb A n c t v => .iface 143 (.agg #[.slice A n c, .string t, v])
  | .ret A n c k => .iface 101 (.agg #[.slice A n c, .int .i64 k])
  | .del k => .iface 103 (.agg #[.int .i64 k])
/-- its kind and its length -/
def PEl.op : PEl → Int × Int
  | .ins _ _ _ _ k => (1, k)
  | .emb _ _ _ _ _ => (2, 1)
  | .ret _ _ _ k => (3, k)
  | .del k => (4, k)
noncomputable def pelO (o : OpA) : Int × Int := (o.kind, if o.kind = 1 then ((U.sc o.text).length : Int) else if o.kind = 2 then 1 else o.count)
theorem pel_of {w : World} {o : OpA} {cs : List Value} (h : kPiece.K w (pOf o) cs) (ho : pErr o = 0) : ∃ x : PEl, cs = [x.val] ∧ x.op = pelO o := by
  rcases kind_of_ok ho with hk | hk | hk | hk
  · rw [pOf_ins hk] at h
    obtain ⟨A, c, rfl, _⟩ := kPiece_ins h
    exact ⟨.ins A o.attrs.length c o.text _, rfl, by unfold PEl.op pelO; rw [hk]; rfl⟩
  · rw [pOf_emb hk] at h
    obtain ⟨A, c, rfl, _⟩ := kPiece_emb h
    exact ⟨.emb A o.attrs.length c o.text _, rfl, by unfold PEl.op pelO; rw [hk]; rfl⟩
  · rw [pOf_ret hk] at h
    obtain ⟨A, c, rfl, _⟩ := kPiece_ret h
    exact ⟨.ret A o.attrs.length c o.count, rfl, by unfold PEl.op pelO; rw [hk]; rfl⟩
  · rw [pOf_del hk] at h
    obtain rfl := kPiece_del h
    exact ⟨.del o.count, rfl, by unfold PEl.op pelO; rw [hk]; rfl⟩
/-- what came is a beginning -/
def POK (ops : List OpA) (pre : List PEl) : Prop := pre.map PEl.op = (ops.take pre.length).map pelO
theorem POK.snoc {ops : List OpA} {pre : List PEl} {x : PEl} (h : POK ops pre) (hl : pre.length < ops.length) (hx : x.op = pelO (ops.getD pre.length op0)) : POK ops (pre ++ [x]) := by
  unfold POK at h ⊢
  rw [List.map_append, h, List.length_append, List.length_singleton, take_op hl, List.map_append, List.map_cons, List.map_nil, List.map_cons, List.map_nil, hx]
/-- inserted, retained, deleted, as the machine adds them -/
def stepL (s : Int × Int × Int) (p : Int × Int) : Int × Int × Int :=
  if p.1 = 3 then (s.1, IntKind.i64.wrap (s.2.1 + p.2), s.2.2) else if p.1 = 4 then (s.1, s.2.1, IntKind.i64.wrap (s.2.2 + p.2)) else (IntKind.i64.wrap (s.1 + p.2), s.2.1, s.2.2)
def sumL (ps : List (Int × Int)) : Int × Int × Int := ps.foldl stepL (0, 0, 0)
theorem sumL_snoc (ps : List (Int × Int)) (p : Int × Int) : sumL (ps ++ [p]) = stepL (sumL ps) p := by unfold sumL; rw [List.foldl_append]; rfl
def LenI (w : World) (c5 c6 c7 : Nat) (pre : List PEl) (M : Nat → Prop) (W : World) : Prop :=
  RX.Blk W c5 3 #[.int .i64 (sumL (pre.map PEl.op)).1] ∧ RX.Blk W c6 3 #[.int .i64 (sumL (pre.map PEl.op)).2.1] ∧ RX.Blk W c7 3 #[.int .i64 (sumL (pre.map PEl.op)).2.2] ∧ M = (fun k => k = c5 ∨ k = c6 ∨ k = c7) ∧ Below w.heap.size w W
theorem LenI.own {w : World} {c5 c6 c7 B : Nat} (h : w.heap.size ≤ B) (M : Nat → Prop) : OwnFrom B (fun s W => LenI w c5 c6 c7 s M W) := by
  rintro s W W' row ⟨h1, h2, h3, h4, h5⟩ hg hr
  exact ⟨RX.ownFrom_blk (β := Unit) (B := B) (fun _ => c5) _ (fun _ => _) () W W' row h1 hg hr, RX.ownFrom_blk (β := Unit) (B := B) (fun _ => c6) _ (fun _ => _) () W W' row h2 hg hr, RX.ownFrom_blk (β := Unit) (B := B) (fun _ => c7) _ (fun _ => _) () W W' row h3 hg hr, h4, RX.ownFrom_below' (β := Unit) w h () W W' row h5 hg hr⟩
theorem LenI.im {w : World} {c5 c6 c7 lo hi : Nat} {pre : List PEl} {M : Nat → Prop} {W : World} (h : LenI w c5 c6 c7 pre M W) (h5 : w.heap.size ≤ c5 ∧ c5 < lo) (h6 : w.heap.size ≤ c6 ∧ c6 < lo) (h7 : w.heap.size ≤ c7 ∧ c7 < lo) : ∀ k, M k → ¬ DI w.heap.size lo hi k ∧ k < W.heap.size := by
  obtain ⟨e5, e6, e7, rfl, _⟩ := h
  rintro k (rfl | rfl | rfl)
  · exact ⟨fun h => by rcases h with h | h <;> omega, e5.lt⟩
  · exact ⟨fun h => by rcases h with h | h <;> omega, e6.lt⟩
  · exact ⟨fun h => by rcases h with h | h <;> omega, e7.lt⟩
theorem len_snoc (pre : List PEl) (x : PEl) : sumL ((pre ++ [x]).map PEl.op) = stepL (sumL (pre.map PEl.op)) x.op := by rw [List.map_append]; exact sumL_snoc _ _
end Go.Proofs.YtgphmfnkeolbcaaDoor
/- What walk.Each goes over. Conditions: sizes, the tables of utf8, the errors' variables. -/

set_option linter.unusedVariables false
set_option linter.unusedSimpArgs false
set_option maxRecDepth 100000
namespace Go.Proofs.YtgphmfnkeolbcaaDoor
open Go Go.RowKit Go.Proofs.YtgphmfnkeolbcaaDoorW.PrintWords RX
theorem ent49 : Ent Tryd.prog 49 := ent_of Tryd.func49 (by kernel_rfl) rfl
theorem ent70 : Ent Tryd.prog 70 := ent_of Tryd.func70 (by kernel_rfl) rfl
theorem weach_any (d : Nat) (w : World) : Calls Tryd.prog 49 #[.pointer (some ⟨d, 0, none⟩)] w fun e w' => ∃ g, e = .returned (.func (.func 70) #[] #[.pointer (some ⟨g, 0, none⟩)]) ∧ w.heap.size ≤ g ∧ RX.Blk w' g 25 #[.pointer (some ⟨d, 0, none⟩)] ∧ Below w.heap.size w w' := by
 refine RX.enter Tryd.func49 rfl 4 rfl [(0, .pointer (some ⟨d, 0, none⟩))] rfl (by kernel_rfl) (fun R_ hR_ => ?_)
 refine sq (rg (xwe 1 [] [(1, pw w.heap.size 0)] (w.alloc (.cells #[.pointer (some ⟨d, 0, none⟩)] 25)) [] trivial ?_))
 obtain ⟨w_1, hw_5, hb_2, hk_3, hz_4⟩ := new_world w #[.pointer (some ⟨d, 0, none⟩)] 25
 rw [hw_5]
 refine xr0 1 [] [] ?_
 refine nl (sq (rg (xe0 2 [(2, .func (.func 70) #[] #[pw w.heap.size 0])] ?_)))
 refine nl (X_ret (rk [.func (.func 70) #[] #[.pointer (some ⟨w.heap.size, 0, none⟩)]] (hR_ _ _ ?_)))
 exact ⟨_, rfl, (Nat.le_refl _), hk_3, hb_2⟩
set_option maxHeartbeats 1000000 in
theorem weach_seq (D : Nat → Prop) (g d : Nat) (xs : List OpA) (wo w1 : World) (hd : DeltaC w1 d xs) (hb : badE xs = 0) (hn : xs.length ≤ 1100000) (hz : ∀ i, i < xs.length → opSz (xs.getD i op0)) (hwo : ∀ k, k < wo.heap.size → D k) (hD : ∀ k, D k → k < w1.heap.size) (hB : Below wo.heap.size wo w1) (hT : Tabs wo) (es : List Addr) (hE : ErrsO wo es) (hk : RX.Blk w1 g 25 #[.pointer (some ⟨d, 0, none⟩)]) :
  SeqM D Tryd.prog 70 #[.pointer (some ⟨g, 0, none⟩)] (fun x : PEl => #[x.val]) (fun ys => POK xs ys ∧ ys.length = xs.length) (fun pre => POK xs pre) (fun _ _ => True) xs.length w1 := by
 intro lp J Jx M0 W hW hJ hJx hMb hY jJ0
 have hJb : ∀ s M (X Y : World), Below X.heap.size X Y → J s M X → J s M Y := fun s M X Y hb hj => abides_below (hJ M) hb hj
 have hlm : (List.map pOf xs).length = xs.length := List.length_map ..
 refine callsIn_wide.2 ?_
 rw [show (#[Value.func (.yield lp) #[] #[]] ++ #[Value.pointer (some ⟨g, 0, none⟩)] : Array Value) = #[.func (.yield lp) #[] #[], .pointer (some ⟨g, 0, none⟩)] from rfl]
 refine RX.enter Tryd.func70 rfl 17 rfl [(0, .func (.yield lp) #[] #[]), (1, .pointer (some ⟨g, 0, none⟩))] rfl (by kernel_rfl) (fun R_ hR_ => ?_)
 refine sq (rg (xe 1 [(5, .load (.pointer (some ⟨d, 0, none⟩)))] [(0, .func (.yield lp) #[] #[]), (5, pw d 0)] [LoadsAs Tryd.prog 25 (⟨g, 0, none⟩) (.pointer (some ⟨d, 0, none⟩)) W] ⟨loads1 rfl (Blk.cell (Blk.below hk hW) 0 _ rfl), trivial⟩ ?_))
 refine xc 71 ent71 [.pointer (some ⟨d, 0, none⟩)] (dpieces_any d xs _ (hd.below hW) hb hn hz (hT.below (hB.trans (bel_lo2 hW hB.size))) es (hE.below (hB.trans (bel_lo2 hW hB.size)))) ?_
 rintro e w_4 ⟨A_1, c_2, rfl, hr_3, hb_5⟩; refine ⟨_, rfl, ?_⟩
 have hr9_ : kPiece.R 87 w_4 W.heap.size (fun k_ => W.heap.size ≤ k_ ∧ k_ < w_4.heap.size) (.slice A_1 (List.map pOf xs).length c_2) (List.map pOf xs) := Kd.R_mono (Kd.R_bound hr_3) (fun k_ hk_ => ⟨hk_.2.1, hk_.2.2.1⟩)
 refine xr0 2 [(6, .slice A_1 ((List.map pOf xs).length) c_2), (7, .int .i64 ((List.map pOf xs).length : Int)), (8, .int .i64 0)] [5] ?_
 refine nl (X_block ?_)
 have hlh_ : W.heap.size ≤ w_4.heap.size := (hb_5).size
 have hWl_ : W.heap.size ≤ W.heap.size := (Nat.le_refl _)
 refine X_loop (ι := Nat × List PEl × (Nat → Prop)) (fun ⟨i, pre, M⟩ => [(0, .func (.yield lp) #[] #[]), (6, .slice A_1 ((List.map pOf xs).length) c_2), (7, .int .i64 ((List.map pOf xs).length : Int)), (8, .int .i64 (i : Int))]) (fun ⟨i, pre, M⟩ wl => i ≤ xs.length ∧ pre.length = i ∧ POK xs pre ∧ J pre M wl ∧ (∀ k, M k → k < W.heap.size ∨ w_4.heap.size ≤ k) ∧ kPiece.R 87 wl W.heap.size (fun k_ => W.heap.size ≤ k_ ∧ k_ < w_4.heap.size) (.slice A_1 (List.map pOf xs).length c_2) (List.map pOf xs) ∧ w_4.heap.size ≤ wl.heap.size) (fun ⟨i, pre, M⟩ => xs.length - i) (0, [], M0) ⟨by omega, rfl, rfl, (hJb _ _ _ _ hb_5 jJ0), (fun k_ h_ => .inl (Nat.lt_of_lt_of_le (hMb _ _ _ jJ0 k_ h_).2 hWl_)), hr9_, (Nat.le_refl _)⟩ (by kernel_rfl) ?_
 rintro ⟨i, pre, M⟩ wl ⟨hi_, hpn, hpok, hJ1, hlo1, hr1, hhi1⟩
 refine sq (X_region ?_)
 by_cases c_6 : (i : Int) < ((List.map pOf xs).length : Int)
 ·refine xr 1 [(9, .eq (.bool true))] [(9, .bool true)] [] [Value.bool (decide ((i : Int) < ((List.map pOf xs).length : Int))) = Value.bool true] ⟨congrArg Value.bool (decide_eq_true (c_6)), trivial⟩ ?_
  refine nl (sq (ct (sk (sq (bk (sq (X_region ?_)))))))
  have hil_14 : i < xs.length := by omega
  obtain ⟨ad_7, cs_13, ha_8, hK_12, hc_9⟩ := Kd.atC (Kd.R_C hr1) piece0 (i := (i : Int)) (by omega) (by omega)
  rw [show (List.map pOf xs).getD (i : Int).toNat piece0 = pOf (xs.getD i op0) from map_getD pOf op0 piece0 hil_14] at hK_12
  obtain ⟨x_10, rfl, hx_11⟩ := pel_of hK_12 (badE_getD hb hil_14)
  replace hc_9 : CellsAt wl (ad_7.add ((i : Int).toNat * 1)) [x_10.val] := hc_9
  refine xr 3 [(10, .idx ad_7), (11, .load (x_10.val))] [(4, x_10.val)] [9] [A_1 = some ad_7, (0 : Int) ≤ (i : Int), (i : Int) < ((List.map pOf xs).length : Int), LoadsAs Tryd.prog 87 (ad_7.add ((i : Int).toNat * 1)) (x_10.val) wl] ⟨ha_8, (by omega), (by omega), loads1 rfl (elem_cell hc_9 0 _ rfl), trivial⟩ ?_
  refine nl (sq (X_regionI ?_))
  refine XLI_pre 2 (by kernel_rfl) (fun _ _ h_ => h_) ?_
  refine xr0 2 [(12, .func (.yield lp) #[] #[]), (13, x_10.val)] [4] ?_
  refine nl ?_
  have hjw_ := hJ1
  have hrw_ := hr1
  have hwl_ : wl.heap.size ≤ wl.heap.size := (Nat.le_refl _)
  have hpok3_ := hpok.snoc (x := x_10) (by omega) (by rw [hpn]; exact hx_11)
  refine XLI_yield rfl rfl rfl rfl [x_10.val] (by kernel_rfl) (hY pre M x_10 _ hjw_ trivial (by omega)) ?_
  rintro e w_15 (⟨rfl, M3_, hJ3_, hK3_, hM3_⟩ | ⟨rfl, hJ3_⟩)
  ·refine ⟨_, rfl, ?_⟩
   have hpn3_ : (pre ++ [x_10]).length = i + 1 := by rw [List.length_append, List.length_singleton, hpn]
   have hlo3_ := new_apart hM3_ hlo1 (by omega)
   have hr3_ := hK3_.row hrw_ (fun k_ h1_ h2_ => by have := hlo1 k_ h2_; omega)
   have hhi3_ : w_4.heap.size ≤ w_15.heap.size := by have := hK3_.size; omega
   refine XLI_of (by kernel_rfl) (fun _ _ h_ => h_) ?_
   refine xr0 1 [(15, .bool false)] [12, 13, 14] ?_
   refine nl (cf (sk (rg (xr 2 [(16, .eq (.int .i64 ((i : Int) + 1)))] [(8, .int .i64 ((i : Int) + 1))] [15] [Value.int .i64 (IntKind.i64.wrap ((i : Int) + 1)) = Value.int .i64 ((i : Int) + 1)] ⟨wr_i64 (by omega) (by omega), trivial⟩ ?_))))
   refine nl ?_
   refine ⟨(i + 1, (pre ++ [x_10]), M3_), by kernel_rfl, ?_, ?_⟩
   ·exact ⟨by omega, hpn3_, hpok3_, hJ3_, hlo3_, hr3_, hhi3_⟩
   (try dsimp only); omega
  refine ⟨_, rfl, ?_⟩
  refine XLI_of (by kernel_rfl) (fun _ _ h_ => h_) ?_
  refine xr0 1 [(15, .bool true)] [12, 13, 14] ?_
  refine nl (ct (X_ret (rk [] (hR_ _ _ ?_))))
  exact ⟨⟨_, rfl⟩, .inr ⟨_, hpok3_, hJ3_⟩⟩
 refine xr 1 [(9, .eq (.bool false))] [(9, .bool false)] [] [Value.bool (decide ((i : Int) < ((List.map pOf xs).length : Int))) = Value.bool false] ⟨congrArg Value.bool (decide_eq_false (c_6)), trivial⟩ ?_
 refine nl (sq (cf (X_exit (ek [] (hR_ _ _ ?_)))))
 exact ⟨⟨_, rfl⟩, .inl ⟨pre, M, ⟨hpok, by omega⟩, hJ1⟩⟩
end Go.Proofs.YtgphmfnkeolbcaaDoor
/- Regions that draw their order, whose last operations change what the others look at. No condition. -/

set_option linter.unusedVariables false
set_option linter.unusedSimpArgs false
namespace Go.Proofs.YtgphmfnkeolbcaaDoor.RX
open Go Go.RowKit Go.Proofs.YtgphmfnkeolbcaaDoorW.PrintLast
section
variable {P : Program} {N : Nat} {ops : Array Oper} {S : World → Prop} {w : World} {ds : List Nat} {qs : QS} {l : Slots}
/-- one of the last comes up alone: what it does to the class is nobody's matter any more -/
theorem XG_last {fuel fuel' : Nat} {listed : Array Bool} (i : Nat) (listed' : Array Bool) (o : Oper) (h0 : ops[i]? = some o) (hr : Region.ready .any ops listed = [i]) (hl : listed.setIfInBounds i true = listed') (hf : fuel = fuel' + 1) (hd : i ∈ ds)
    (h : XL P N ops [o] (thenS (fun l' w' => XG P N ops S ds fuel' listed' qs l' w') qs) l w) : XG P N ops S ds fuel listed qs l w := by
  subst hf
  subst hl
  intro a ha
  refine wpAnyLast_all hr (by simp) fun j hj => ?_
  obtain rfl : j = i := by simpa using hj
  have h1 := h a ha
  unfold wpOp
  simp only [h0]
  have hm : ∀ a' w', lift N (thenS (fun l' w' => XG P N ops S ds fuel' (listed.setIfInBounds j true) qs l' w') qs) .normal a' w' →
      (j ∉ ds → S w → S w') ∧ wpAnyLast P .any ops (lift N qs) S ds fuel' (listed.setIfInBounds j true) a' w' := by
    rintro a' w' ⟨l', hl', hx⟩
    exact ⟨fun h_ => absurd hd h_, hx a' hl'⟩
  unfold wpList at h1
  split at h1
  · rename_i hw
    rw [if_pos hw]
    refine h1.imp (fun h1 => upon_Q (Q := lift N (thenS (fun l' w' => XG P N ops S ds fuel' (listed.setIfInBounds j true) qs l' w') qs)) (fun _ _ _ hx => hx) (fun hx => hx) (Oper.wp_mono (fun a' w' hx => hm a' w' hx) h1)) (fun h => h)
  · rename_i hw
    rw [if_neg hw]
    exact hm _ _ h1
end
end Go.Proofs.YtgphmfnkeolbcaaDoor.RX
