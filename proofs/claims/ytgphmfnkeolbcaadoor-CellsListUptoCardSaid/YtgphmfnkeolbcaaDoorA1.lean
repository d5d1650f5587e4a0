import Derived.Test.YtgphmfnkeolbcaaDoorRX
import Derived.Test.YtgphmfnkeolbcaaDoorWWords
import Derived.Test.YtgphmfnkeolbcaaDoorShelf
import Derived.Test.YtgphmfnkeolbcaaDoorErr
import Derived.Shelf.Unicode.DecodeLastEight
/- Slices as the text-following wants them: read, made, appended to, written, cut. No condition. -/
set_option linter.unusedVariables false
set_option linter.unusedSimpArgs false
namespace Go.Proofs.YtgphmfnkeolbcaaDoor.RX
open Go Go.RowKit Go.Proofs.YtgphmfnkeolbcaaDoorW.PrintWords

theorem max_eq (a b : Int) : (if b > a then b else a) = max a b := by omega
theorem ret_int {k : IntKind} {a b : Int} (h : a = b) : Ending.returned (.int k a) = .returned (.int k b) := by rw [h]
/-! ### reading -/
/-- an element's cells, whatever the kind -/
theorem Kd.atC {α : Type} {d : Kd α} {w : World} {A : Option Addr} {n : Nat} {xs : List α} (h : d.C w A n xs) (z : α) {i : Int} (h0 : 0 ≤ i) (h1 : i < n) : ∃ ad c, A = some ad ∧ d.K w (xs.getD i.toNat z) c ∧ CellsAt w (ad.add (i.toNat * d.sz)) c := by
  obtain ⟨ad, c, e, _, hK, hc⟩ := Kd.C_get h z i h0 h1
  exact ⟨ad, c, e, hK, fun j u hu => by rw [add_add]; exact hc j u hu⟩
theorem Kd.atI {k : IntKind} {w : World} {A : Option Addr} {n : Nat} {xs : List Int} (h : (Kd.int k).C w A n xs) {i : Int} (h0 : 0 ≤ i) (h1 : i < n) : ∃ ad, A = some ad ∧ CellsAt w (ad.add (i.toNat * 1)) [.int k (rd xs i)] := by
  obtain ⟨ad, c, e, hK, hc⟩ := Kd.atC h 0 h0 h1
  obtain rfl : c = [.int k (rd xs i)] := hK
  exact ⟨ad, e, hc⟩

/-- a slice's beginning, and its rest -/
theorem Kd.C_take {α : Type} {d : Kd α} {w : World} {A : Option Addr} {n m : Nat} {xs : List α} (h : d.C w A n xs) (hm : m ≤ n) : d.C w A m (xs.take m) := by
  obtain ⟨h1, h2, h3⟩ := h
  refine ⟨by simp [h1, hm], by omega, fun h0 => ?_⟩
  obtain ⟨ad, e, hc⟩ := h3 (by omega)
  refine ⟨ad, e, fun j p hj => hc j p ?_⟩
  rw [List.getElem?_take] at hj
  split at hj
  · exact hj
  · cases hj
theorem Kd.C_drop {α : Type} {d : Kd α} {w : World} {A : Option Addr} {n k cap : Nat} {xs : List α} (h : d.C w A n xs) (hk : k ≤ n) (hc : n ≤ cap) :
    d.C w (if cap = k then A else A.map (·.add (k * d.sz))) (n - k) (xs.drop k) := by
  obtain ⟨h1, h2, h3⟩ := h
  refine ⟨by simp [h1], by omega, fun h0 => ?_⟩
  obtain ⟨ad, rfl, hcell⟩ := h3 (by omega)
  rw [if_neg (by omega)]
  refine ⟨ad.add (k * d.sz), rfl, fun j p hj => ?_⟩
  rw [List.getElem?_drop] at hj
  obtain ⟨c, hc1, hc2, hc3⟩ := hcell (k + j) p hj
  refine ⟨c, hc1, hc2, fun i u hu => ?_⟩
  rw [add_add, ← hc3 i u hu, Nat.add_mul, Nat.add_assoc]

def OkFrom (B : Nat) : Nat → Prop := fun k => B ≤ k
theorem Kd.R_C {α : Type} {d : Kd α} {e : Nat} {w : World} {base : Nat} {ok : Nat → Prop} {A : Option Addr} {n c : Nat} {xs : List α} (h : d.R e w base ok (.slice A n c) xs) : d.C w A n xs := by
  obtain ⟨A', c', he, _, hC⟩ := Kd.R_reads h
  injection he with h1 h2 h3
  subst h1; subst h2
  exact hC
theorem Kd.R_len {α : Type} {d : Kd α} {e : Nat} {w : World} {base : Nat} {ok : Nat → Prop} {A : Option Addr} {n c : Nat} {xs : List α} (h : d.R e w base ok (.slice A n c) xs) : n = xs.length ∧ n ≤ c := by
  obtain ⟨A', c', he, hl, _⟩ := Kd.R_reads h
  injection he with h1 h2 h3
  exact ⟨h2, by omega⟩
/-- two rows whose blocks are of different types -/
theorem Kd.R_apart {α β : Type} {d : Kd α} {d' : Kd β} {e e' : Nat} {w w1 : World} {base base' : Nat} {ok ok' : Nat → Prop} {v : Value} {A : Option Addr} {n c : Nat} {xs : List α} {ys : List β} (h : d.R e w base ok v xs) (h' : d'.R e' w base' ok' (.slice A n c) ys)
    (hne : (e :: d.E).contains e' = false) (hg : w.grownBy w1 (A.map (·.block))) : d.R e w1 base ok v xs := by
  cases A with
  | none => exact Kd.R_grown h hg (fun k _ => by simp)
  | some ad =>
    obtain ⟨inner, ho⟩ := Kd.R_own h'
    obtain ⟨cells, hb⟩ := own_typed ho ad.block rfl
    have h2 := Kd.R_types h hb (fun q hq e => by subst e; rw [List.contains_iff_mem.2 hq] at hne; cases hne)
    exact Kd.R_mono (Kd.R_grown h2 hg (fun k hk e => by simp at e; exact hk.2 e)) (fun _ hk => hk.1)
theorem Kd.M_rowApart {α β : Type} {d : Kd α} {d' : Kd β} {e e' : Nat} {w : World} {base base' : Nat} {v : Value} {A : Option Addr} {n c : Nat} {xs : List α} {ys : List β} {ok' : Nat → Prop} (h : d.R e w base (OkFrom base) v xs) (hb : base' ≤ base)
    (h' : d'.R e' w base' ok' (.slice A n c) ys) (hne : (e :: d.E).contains e' = false) : ∃ okp, (Kd.slice e d).M w base' okp xs [v] ∧ ∀ k, okp k → OkFrom base' k ∧ some k ≠ A.map (·.block) := by
  cases A with
  | none => exact ⟨OkFrom base, Kd.M_row (Kd.R_lower h hb), fun k hk => ⟨Nat.le_trans hb hk, by simp⟩⟩
  | some ad =>
    obtain ⟨inner, ho⟩ := Kd.R_own h'
    obtain ⟨cells, hbl⟩ := own_typed ho ad.block rfl
    have h2 := Kd.R_types h hbl (fun q hq e => by subst e; rw [List.contains_iff_mem.2 hq] at hne; cases hne)
    exact ⟨_, Kd.M_row (Kd.R_lower h2 hb), fun k hk => ⟨Nat.le_trans hb hk.1, fun e => by simp at e; exact hk.2 e⟩⟩
theorem Kd.R_low {α : Type} {d : Kd α} {e : Nat} {w : World} {base base' : Nat} {v : Value} {xs : List α} (h : d.R e w base (OkFrom base) v xs) (hb : base' ≤ base) : d.R e w base' (OkFrom base') v xs := Kd.R_mono (Kd.R_lower h hb) (fun _ hk => Nat.le_trans hb hk)
theorem bgo {a b c : World} {r : Option Nat} {base : Nat} (h : Below a.heap.size a b) (k : b.grownBy c r) (hle : ∀ x, r = some x → base ≤ x) (hB : a.heap.size ≤ base) : Below a.heap.size a c := h.grown k h.size (fun x hx => Nat.le_trans hB (hle x hx))

/-! ### literals -/
theorem reps_flatMap {α : Type} {R : α → List Value → Prop} {size : Nat} (enc : α → List Value) (h1 : ∀ x, (enc x).length = size) (h2 : ∀ x, R x (enc x)) : ∀ xs : List α, Reps R size xs (xs.flatMap enc)
  | [] => Reps.none _ _
  | x :: xs => by
    have hs : Reps R size [x] (enc x) := by
      have := (Reps.none R size).snoc (h2 x) (h1 x)
      simpa using this
    have := Kd.reps_append hs (reps_flatMap enc h1 h2 xs)
    simpa using this
theorem Kd.R_litB {α : Type} (d : Kd α) {W w1 : World} {e : Nat} {cs : Array Value} (xs : List α) (hk : w1.heap[W.heap.size]? = some (.cells cs e (0, 0))) (hrep : Reps (d.M w1 W.heap.size (fun _ => False)) d.sz xs cs.toList) (hl : xs.length ≤ 9223372036854775807) :
    d.R e w1 W.heap.size (OkFrom W.heap.size) (.slice (some ⟨W.heap.size, 0, none⟩) xs.length xs.length) xs := by
  refine ⟨fun k hk => ?_, cs.toList, ⟨hrep.1, .inr ⟨W.heap.size, xs.length, cs, rfl, Nat.le_refl _, hk, Nat.le_refl _, by simpa [maxLen] using hl, by simpa using hrep.1, List.take_of_length_le (by rw [hrep.1]; exact Nat.le_refl _)⟩⟩, hrep.1, fun j p hj => d.M_mono (fun _ h => h.elim) (hrep.2 j p hj)⟩
  have : W.heap.size = k := by simpa [Value.ownBlock] using hk
  subst this
  exact Nat.le_refl _
/-! ### made -/
theorem ownB {A : Option Addr} {n c : Nat} : (Value.slice A n c).ownBlock = A.map (·.block) := by cases A <;> rfl

section
variable {P : Program} {N : Nat} {ops : Array Oper} {qs : QS} {rest : List Oper} {o : Oper} {l : Slots} {α : Type}

/-- append(s, x), s a slice of the call's own -/
theorem XL_append (d : Kd α) {W : World} {s x : Operand} {t : TypeId} (ho : o.op = .call { callee := .builtin .append, args := #[s, x], argTypes := #[t, t] }) (hg : gd ops l o = some true) (hd : okD N o.dst = true) (base e : Nat) (z : Value) (bytes : Nat)
    (ht : P.underlying t = some (.slice e)) (hinfo : (P.info? e).map (fun i => (i.zero, i.size, i.bytes)) = some (some z, d.sz, bytes)) (hz : z.cells.size = d.sz) (hs0 : 0 < d.sz) (hb0 : 0 < bytes)
    {A : Option Addr} {n c : Nat} (xs : List α) (p : α) (cs : List Value) (okp : Nat → Prop) (hv : evs l [s, x] = some [.slice A n c, .slice (some ⟨W.heap.size, 0, none⟩) 1 1]) (hp : d.M W base okp p cs) (hokp : ∀ k, okp k → OkFrom base k ∧ some k ≠ A.map (·.block))
    (HO : d.R e W base (OkFrom base) (.slice A n c) xs) (hbase : base ≤ W.heap.size) (hl : (xs.length + 1) * bytes ≤ 140737488355328)
    (hn : ∀ A1 c1 w1, d.R e w1 base (OkFrom base) (.slice A1 (xs ++ [p]).length c1) (xs ++ [p]) → (xs ++ [p]).length ≤ c1 → W.grownBy w1 (A.map (·.block)) → (∀ k, A.map (·.block) = some k → base ≤ k) → (A1.map (·.block) = A.map (·.block) ∨ ∃ b, A1.map (·.block) = some b ∧ W.heap.size ≤ b) →
      XL P N ops rest qs (putS l o.dst (.slice A1 (xs ++ [p]).length c1)) w1) : XL P N ops (o :: rest) qs l (W.alloc (.cells cs.toArray e)) := by
  refine XL_law hd hg fun a ha => ?_
  have he := evs_ok ha _ _ hv
  simp only [List.map_cons, List.map_nil, List.cons.injEq, and_true] at he
  refine Kd.R_append (o := { o with guard := none }) d (w0 := W) base rfl s x t e z bytes ho ht hinfo hz hs0 hb0 _ xs p cs (OkFrom base) okp he.1 he.2 hp (by rw [ownB]; exact hokp) (fun k hk => Nat.le_trans hbase hk) HO (Below.refl _ _) hbase hl ?_
  intro v1 w1 hR hB hgr hat
  obtain ⟨A1, c1, rfl, hc, _⟩ := Kd.R_reads hR
  rw [ownB] at hgr hat
  rw [ownB] at hat
  exact hn A1 c1 w1 hR hc hgr (fun k hk => HO.1 k (by rw [ownB]; exact hk)) hat _ (ha.putS hd _)

/-- append(s, ys...) -/
theorem XL_appendAll (d : Kd α) {W : World} {s x : Operand} {t : TypeId} (ho : o.op = .call { callee := .builtin .append, args := #[s, x], argTypes := #[t, t] }) (hg : gd ops l o = some true) (hd : okD N o.dst = true) (base e : Nat) (z : Value) (bytes : Nat)
    (ht : P.underlying t = some (.slice e)) (hinfo : (P.info? e).map (fun i => (i.zero, i.size, i.bytes)) = some (some z, d.sz, bytes)) (hz : z.cells.size = d.sz) (hs0 : 0 < d.sz) (hb0 : 0 < bytes)
    {A A' : Option Addr} {n c m c' : Nat} (xs ys : List α) (hv : evs l [s, x] = some [.slice A n c, .slice A' m c'])
    (HO : d.R e W base (OkFrom base) (.slice A n c) xs) (HC : d.C W A' m ys) (hKM : ∀ x cs, d.K W x cs → d.M W base (fun _ => False) x cs) (hbase : base ≤ W.heap.size) (hl : (xs.length + m) * bytes ≤ 140737488355328)
    (hn : ∀ A1 c1 w1, d.R e w1 base (OkFrom base) (.slice A1 (xs ++ ys).length c1) (xs ++ ys) → (xs ++ ys).length ≤ c1 → W.grownBy w1 (A.map (·.block)) → (∀ k, A.map (·.block) = some k → base ≤ k) → (A1.map (·.block) = A.map (·.block) ∨ ∃ b, A1.map (·.block) = some b ∧ W.heap.size ≤ b) →
      XL P N ops rest qs (putS l o.dst (.slice A1 (xs ++ ys).length c1)) w1) : XL P N ops (o :: rest) qs l W := by
  refine XL_law hd hg fun a ha => ?_
  have he := evs_ok ha _ _ hv
  simp only [List.map_cons, List.map_nil, List.cons.injEq, and_true] at he
  refine Kd.R_append_rows (o := { o with guard := none }) d (w0 := W) base rfl s x t e z bytes ho ht hinfo hz hs0 hb0 _ xs ys A' m c' (OkFrom base) (fun _ => False) he.1 he.2 HO HC hKM (fun _ h => h.elim) (fun k hk => Nat.le_trans hbase hk) (Below.refl _ _) hbase hl ?_
  intro v1 w1 hR hB hgr hat
  obtain ⟨A1, c1, rfl, hc, _⟩ := Kd.R_reads hR
  rw [ownB] at hgr hat
  rw [ownB] at hat
  exact hn A1 c1 w1 hR hc hgr (fun k hk => HO.1 k (by rw [ownB]; exact hk)) hat _ (ha.putS hd _)

end
end Go.Proofs.YtgphmfnkeolbcaaDoor.RX
/- What scalars.next and Check answer. Conditions: the tables of utf8. -/
set_option linter.unusedVariables false
set_option linter.unusedSimpArgs false
set_option maxRecDepth 100000
namespace Go.Proofs.YtgphmfnkeolbcaaDoor
open Go Go.RowKit RX
theorem ent81 : Ent Tryd.prog 81 := ent_of Tryd.func81 (by kernel_rfl) rfl
theorem ent72 : Ent Tryd.prog 72 := ent_of Tryd.func72 (by kernel_rfl) rfl
theorem ent50 : Ent Tryd.prog 50 := ent_of Tryd.func50 (by kernel_rfl) rfl
/-- the errors that attributes' code answers -/
abbrev ErrsA (w : World) (es : List Addr) : Prop := ErrsOn [1, 5, 6, 7, 8, 10] w es
abbrev Tabs (w : World) : Prop := Lib.Utf8Tabs 19 20 w
/-- what next answers -/
def nextP (s : ByteArray) : Nat × Nat := if (Lib.decodeGo s).1 = 65533 ∧ (Lib.decodeGo s).2 < 2 then (0, 0) else Lib.decodeGo s
theorem next_any (s : ByteArray) (w : World) (hT : Tabs w) : Calls Tryd.prog 72 #[.string s] w fun e w' => e = .returned (.tuple #[.int .i32 ((nextP s).1 : Int), .int .i64 ((nextP s).2 : Int)]) ∧ Below w.heap.size w w' := by
 refine RX.enter Tryd.func72 rfl 19 rfl [(0, .string s)] rfl (by kernel_rfl) (fun R_ hR_ => ?_)
 refine sq (rg (xe0 2 [(0, .string s)] ?_))
 refine nl (sq (rg (xe0 1 [(7, .string s)] ?_)))
 refine xc 81 ent81 [.string s] (Tryd.utf8_DecodeRuneInString s _ hT) ?_
 rintro e w_1 ⟨rfl, hb_2⟩; refine ⟨_, rfl, ?_⟩
 refine xe0 5 [(4, .int .i32 ((Lib.decodeGo s).1 : Int)), (5, .int .i64 ((Lib.decodeGo s).2 : Int))] ?_
 refine nl (sq (sq (rg (xr0 1 [(11, .int .i32 ((Lib.decodeGo s).1 : Int))] [] ?_))))
 by_cases c_3 : ((Lib.decodeGo s).1 : Int) = 65533
 ·refine xr 3 [(12, .eq (.bool true))] [(13, .bool true), (14, .int .i64 ((Lib.decodeGo s).2 : Int))] [11] [Value.bool (((Lib.decodeGo s).1 : Int) == 65533) = Value.bool true] ⟨congrArg Value.bool (beq_iff_eq.2 (c_3)), trivial⟩ ?_
  by_cases c_4 : ((Lib.decodeGo s).2 : Int) < 2
  ·refine xr 2 [(15, .eq (.bool true))] [(16, .bool true)] [13, 14] [Value.bool (decide (((Lib.decodeGo s).2 : Int) < 2)) = Value.bool true] ⟨congrArg Value.bool (decide_eq_true (c_4)), trivial⟩ ?_
   refine nl (ct (sq (rg (xe0 2 [(2, .int .i32 0), (3, .int .i64 0)] ?_))))
   refine nl (X_ret (rk [.int .i32 0, .int .i64 0] (hR_ _ _ ?_)))
   rw [show nextP s = (0, 0) from if_pos (by omega)]
   exact ⟨rfl, hb_2⟩
  refine xr 2 [(15, .eq (.bool false))] [(16, .bool false)] [13, 14] [Value.bool (decide (((Lib.decodeGo s).2 : Int) < 2)) = Value.bool false] ⟨congrArg Value.bool (decide_eq_false (c_4)), trivial⟩ ?_
  refine nl (cf (sk (sq (rg (xe0 4 [(2, .int .i32 ((Lib.decodeGo s).1 : Int)), (3, .int .i64 ((Lib.decodeGo s).2 : Int))] ?_)))))
  refine nl (X_ret (rk [.int .i32 ((Lib.decodeGo s).1 : Int), .int .i64 ((Lib.decodeGo s).2 : Int)] (hR_ _ _ ?_)))
  rw [show nextP s = Lib.decodeGo s from if_neg (by omega)]
  exact ⟨rfl, hb_2⟩
 refine xr 5 [(12, .eq (.bool false))] [(16, .bool false)] [11] [Value.bool (((Lib.decodeGo s).1 : Int) == 65533) = Value.bool false] ⟨congrArg Value.bool (beq_eq_false_iff_ne.2 (c_3)), trivial⟩ ?_
 refine nl (cf (sk (sq (rg (xe0 4 [(2, .int .i32 ((Lib.decodeGo s).1 : Int)), (3, .int .i64 ((Lib.decodeGo s).2 : Int))] ?_)))))
 refine nl (X_ret (rk [.int .i32 ((Lib.decodeGo s).1 : Int), .int .i64 ((Lib.decodeGo s).2 : Int)] (hR_ _ _ ?_)))
 rw [show nextP s = Lib.decodeGo s from if_neg (by omega)]
 exact ⟨rfl, hb_2⟩
theorem Tabs.below {w w1 : World} (h : Tabs w) (hb : Below w.heap.size w w1) : Tabs w1 :=
 ⟨fun c hc => (hb.cell (World.block_lt_of_cell? _ _ (h.1 c hc))).trans (h.1 c hc), fun i hi => ⟨(hb.cell (World.block_lt_of_cell? _ _ (h.2 i hi).1)).trans (h.2 i hi).1, (hb.cell (World.block_lt_of_cell? _ _ (h.2 i hi).2)).trans (h.2 i hi).2⟩⟩
theorem nextP_le (s : ByteArray) : (nextP s).2 ≤ s.size := by
 unfold nextP
 split
 ·exact Nat.zero_le _
 exact Go.Lib.decodeGo_le_size s
/-- from byte number k on: where s is no UTF-8 any more; whether it is to its end -/
def uloop (s : ByteArray) : Nat → Nat → Nat × Bool
 | 0, k => (k, true)
 | f + 1, k => if k < s.size then (if (nextP (s.extract k s.size)).2 = 0 then (k, false) else uloop s f (k + (nextP (s.extract k s.size)).2)) else (k, true)
def uchk (s : ByteArray) : Nat × Bool := uloop s s.size 0
theorem uloop_fuel (s : ByteArray) : ∀ (f g k : Nat), s.size - k ≤ f → s.size - k ≤ g → uloop s f k = uloop s g k
 | 0, 0, k, _, _ => rfl
 | 0, g + 1, k, h, _ => by simp only [uloop]; rw [if_neg (by omega)]
 | f + 1, 0, k, _, h => by simp only [uloop]; rw [if_neg (by omega)]
 | f + 1, g + 1, k, h1, h2 => by
  simp only [uloop]
  split
  ·split
   ·rfl
   exact uloop_fuel s f g _ (by omega) (by omega)
  rfl
theorem uloop_step (s : ByteArray) (k : Nat) (h : k < s.size) (h0 : (nextP (s.extract k s.size)).2 ≠ 0) : uloop s s.size k = uloop s s.size (k + (nextP (s.extract k s.size)).2) := by
 rw [uloop_fuel s s.size (s.size + 1) k (by omega) (by omega)]
 simp only [uloop]
 rw [if_pos h, if_neg h0]
theorem uloop_bad (s : ByteArray) (k : Nat) (h : k < s.size) (h0 : (nextP (s.extract k s.size)).2 = 0) : uloop s s.size k = (k, false) := by
 rw [uloop_fuel s s.size (s.size + 1) k (by omega) (by omega)]
 simp only [uloop]
 rw [if_pos h, if_pos h0]
theorem uloop_end (s : ByteArray) (k : Nat) (h : ¬ k < s.size) : uloop s s.size k = (k, true) := by
 rw [uloop_fuel s s.size (s.size + 1) k (by omega) (by omega)]
 simp only [uloop]
 rw [if_neg h]
/-- what scalars.Check answers -/
theorem scheck_any (s : ByteArray) (w : World) (hs : s.size ≤ 9223372036854775807) (hT : Tabs w) (es : List Addr) (hE : ErrsA w es) : Calls Tryd.prog 50 #[.string s] w fun e w' => e = .returned (.tuple #[.int .i64 ((uchk s).1 : Int), errV es (if (uchk s).2 then 0 else 1)]) ∧ Below w.heap.size w w' := by
 refine RX.enter Tryd.func50 rfl 26 rfl [(0, .string s)] rfl (by kernel_rfl) (fun R_ hR_ => ?_)
 refine sq (rg (xe0 2 [(0, .string s)] ?_))
 refine nl (sq (rg (xr0 1 [(4, .int .i64 0)] [] ?_)))
 refine nl (sq (bk (X_loop (ι := Nat) (fun k => [(0, .string s), (4, .int .i64 (k : Int))]) (fun k wl => k ≤ s.size ∧ uloop s s.size k = uchk s ∧ Below w.heap.size w wl) (fun k => s.size - k) 0 ⟨by omega, rfl, (Below.refl _ _)⟩ (by kernel_rfl) ?_)))
 rintro k wl ⟨hk, hk2, HB⟩
 refine sq (sq (rg (xr0 3 [(7, nv k), (9, .int .i64 (s.size : Int))] [] ?_)))
 by_cases c_1 : (k : Int) < (s.size : Int)
 ·refine xr 1 [(10, .eq (.bool true))] [(10, .bool true)] [7, 9] [Value.bool (decide ((k : Int) < (s.size : Int))) = Value.bool true] ⟨congrArg Value.bool (decide_eq_true (c_1)), trivial⟩ ?_
  refine nl (ct (sk (bk (sq (rg (xr 3 [(14, .as (.string (s.extract k s.size)))] [(14, .string (s.extract k s.size))] [10] [RunsAs Tryd.prog [(12, .string s), (13, .int .i64 (k : Int))] (Go.Op.slice 9 (Go.Operand.tmp 12) (some (Go.Operand.tmp 13)) none none) 9 (.string (s.extract k s.size)) wl] ⟨runs_slice_sl (h := (k : Int)) Tryd.underlying9 rfl rfl (by omega) (by omega), trivial⟩ ?_))))))
  have hn := nextP_le (s.extract k s.size)
  have hz : (s.extract k s.size).size = s.size - k := by simp
  refine xc 72 ent72 [.string (s.extract k s.size)] (next_any (s.extract k s.size) _ (hT.below HB)) ?_
  rintro e w_2 ⟨rfl, hb_3⟩; refine ⟨_, rfl, ?_⟩
  refine xr0 5 [(6, .int .i64 ((nextP (s.extract k s.size)).2 : Int))] [14, 15] ?_
  refine nl (sq (sq (rg (xr0 1 [(18, .int .i64 ((nextP (s.extract k s.size)).2 : Int))] [] ?_))))
  by_cases c_4 : ((nextP (s.extract k s.size)).2 : Int) = 0
  ·refine xe 1 [(19, .eq (.bool true))] [(0, .string s), (4, nv k), (6, .int .i64 ((nextP (s.extract k s.size)).2 : Int)), (19, .bool true)] [Value.bool (((nextP (s.extract k s.size)).2 : Int) == 0) = Value.bool true] ⟨congrArg Value.bool (beq_iff_eq.2 (c_4)), trivial⟩ ?_
   refine nl (ct (sq (X_still (by kernel_rfl) (by kernel_rfl) (fun wd_5 hb_6 hh_7 => ?_))))
   refine xse 4 [(21, .load (.iface 164 (.pointer (some (errAt es 1)))))] [(2, .int .i64 (k : Int)), (3, .iface 164 (.pointer (some (errAt es 1))))] [LoadsAs Tryd.prog 30 (⟨2, 0, none⟩) (.iface 164 (.pointer (some (errAt es 1)))) wd_5] ⟨loads1 rfl (((bt (bt HB hb_3) hb_6).cell (World.block_lt_of_cell? _ _ (hE.load 1 2 (by decide) (by decide) rfl))).trans (hE.load 1 2 (by decide) (by decide) rfl)), trivial⟩ ?_
   refine XS_nil ?_
   refine X_ret (rk [.int .i64 (k : Int), .iface 164 (.pointer (some (errAt es 1)))] (hR_ _ _ ?_))
   rw [← hk2, uloop_bad s k (by omega) (by omega)]
   exact ⟨rfl, (bt (bt HB hb_3) hb_6)⟩
  refine xe 1 [(19, .eq (.bool false))] [(0, .string s), (4, nv k), (6, .int .i64 ((nextP (s.extract k s.size)).2 : Int)), (19, .bool false)] [Value.bool (((nextP (s.extract k s.size)).2 : Int) == 0) = Value.bool false] ⟨congrArg Value.bool (beq_eq_false_iff_ne.2 (c_4)), trivial⟩ ?_
  refine nl (cf (sk (rg (xr 4 [(24, .eq (.int .i64 ((k : Int) + ((nextP (s.extract k s.size)).2 : Int))))] [(4, .int .i64 ((k : Int) + ((nextP (s.extract k s.size)).2 : Int)))] [6, 19] [Value.int .i64 (IntKind.i64.wrap ((k : Int) + ((nextP (s.extract k s.size)).2 : Int))) = Value.int .i64 ((k : Int) + ((nextP (s.extract k s.size)).2 : Int))] ⟨wr_i64 (by omega) (by omega), trivial⟩ ?_))))
  refine nl ?_
  refine ⟨(k + (nextP (s.extract k s.size)).2), by kernel_rfl, ?_, ?_⟩
  ·exact ⟨by omega, by rw [← hk2]; exact (uloop_step s k (by omega) (by omega)).symm, (bt HB hb_3)⟩
  (try dsimp only); omega
 refine xr 1 [(10, .eq (.bool false))] [(10, .bool false)] [7, 9] [Value.bool (decide ((k : Int) < (s.size : Int))) = Value.bool false] ⟨congrArg Value.bool (decide_eq_false (c_1)), trivial⟩ ?_
 refine nl (cf (X_exit (sq (rg (xe0 3 [(2, nv k), (3, .nilIface)] ?_)))))
 refine nl (X_ret (rk [.int .i64 (k : Int), .nilIface] (hR_ _ _ ?_)))
 rw [← hk2, uloop_end s k (by omega)]
 exact ⟨rfl, HB⟩
end Go.Proofs.YtgphmfnkeolbcaaDoor
