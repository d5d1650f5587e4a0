/- The errors' texts, out of a row's list. No condition. -/
import Derived.Test.YtlnfgkafnpbeeaaDoorErr
import Derived.Test.YtlnfgkafnpbeeaaDoorKd
set_option linter.unusedVariables false
set_option linter.unusedSimpArgs false
set_option maxRecDepth 100000
namespace Go.Proofs.YtlnfgkafnpbeeaaDoor
open Go Go.RowKit RX Go.Proofs.YtlnfgkafnpbeeaaDoorW.PrintWords

theorem errs_txt {W : World} : ∀ (l : List (String × DataW Unit)) (ps : List MemPlace), DataW.LaidVars Tryd.prog W l ps →
    (∀ b off, MemPlace.cell b off ∈ ps → (∃ c t, W.heap[b]? = some (.cells c t (0, 0))) ∧ ∀ u v, W.cell? ⟨b, off, none⟩ = some (.iface u v) → Value.okWide Tryd.prog W .any 0 u v) →
    ∀ (i : Nat) (n : String) (text : List UInt8) (g : Nat), l[i]? = some (n, errD text) → Tryd.prog.globalNamed n = some g → (Tryd.prog.globals[g]?).map (·.type) = some 25 →
    ∃ a s, W.cell? ⟨g, 0, none⟩ = some (.iface 80 (.pointer (some a))) ∧ W.cell? a = some (.string s) ∧ s.data.toList = text
  | [], ps, _, _, i, n, text, g, h, _, _ => by simp at h
  | (n0, d) :: r, ps, h, hok, i, n, text, g, hi, hg', ht' => by
    obtain ⟨g0, t, cs, fuel, p, q, hg, ht, hv, hd, hr, rfl⟩ := h
    cases i with
    | succ i => exact errs_txt r q hr (fun b off hb => hok b off (by simp [hb])) i n text g (by simpa using hi) hg' ht'
    | zero =>
      simp only [List.getElem?_cons_zero, Option.some.injEq, Prod.mk.injEq] at hi
      obtain ⟨rfl, rfl⟩ := hi
      obtain rfl := Option.some.inj (hg'.symm.trans hg)
      obtain rfl := Option.some.inj (ht'.symm.trans ht)
      obtain ⟨l0⟩ := cs
      obtain ⟨a, s, e1, hc, hs, _, rfl⟩ := errorString_of_trod Tryd.underlying25 errRow Tryd.underlying80 Tryd.underlying97 rfl rfl Tryd.underlying9 errC1 errC2 hd (fun u v e => by
        dsimp only at e
        subst e
        exact (hok g 0 (by simp [MemPlace.row])).2 u v (by simpa using World.var?_cell hg hv 0))
      dsimp only at e1
      subst e1
      exact ⟨a, s, by simpa using World.var?_cell hg hv 0, hc, hs⟩
/-- the errors' texts -/
def ErrTxt (T : Nat → List UInt8) (w : World) (es : List Addr) : Prop := ∀ n, 1 ≤ n → n ≤ 19 → w.cell? (errAt es n) = some (.string ⟨(T n).toArray⟩)
theorem ErrTxt.below {T : Nat → List UInt8} {w w1 : World} {es : List Addr} (h : ErrTxt T w es) (hb : Below w.heap.size w w1) : ErrTxt T w1 es :=
  fun n h0 h1 => (hb.cell (World.block_lt_of_cell? _ _ (h n h0 h1))).trans (h n h0 h1)
theorem errTxt_of {W : World} {l : List (String × DataW Unit)} (h : laidMet Tryd.prog l W) (T : Nat → List UInt8) {es : List Addr} (hE : Errs W es)
    (hl : ∀ n : Nat, n < 19 → ∃ (i : Nat) (nm : String) (g : Nat), l[i]? = some (nm, errD (T (n + 1))) ∧ Tryd.prog.globalNamed nm = some g ∧ (Tryd.prog.globals[g]?).map (·.type) = some 25 ∧ errG[n]? = some g) : ErrTxt T W es := by
  intro n h0 h1
  obtain ⟨ps, hv, _, hok⟩ := h
  obtain ⟨i, nm, g, e1, e2, e3, e4⟩ := hl (n - 1) (by omega)
  rw [show n - 1 + 1 = n from by omega] at e1
  obtain ⟨a, s, c1, c2, c3⟩ := errs_txt l ps hv hok i nm (T n) g e1 e2 e3
  have c4 := hE.load n g (by omega) h1 e4
  rw [c4] at c1
  have : errAt es n = a := by simpa using c1
  rw [this, c2]
  congr 2
  cases s
  simp only [ByteArray.mk.injEq]
  rw [← c3]
/-- rows of errors, by their numbers -/
abbrev kErr (es : List Addr) : Kd Nat := Kd.scalar (fun n => Value.iface 80 (.pointer (some (errAt es n)))) (fun _ => rfl)
theorem Kd.atErr {es : List Addr} {w : World} {A : Option Addr} {n : Nat} {xs : List Nat} (h : (kErr es).C w A n xs) {i : Int} (h0 : 0 ≤ i) (h1 : i < n) : ∃ ad, A = some ad ∧ CellsAt w (ad.add (i.toNat * 1)) [.iface 80 (.pointer (some (errAt es (xs.getD i.toNat 0))))] := by
  obtain ⟨ad, c, e, hK, hc⟩ := Kd.atC h 0 h0 h1
  obtain rfl := hK
  exact ⟨ad, e, hc⟩
theorem Kd.atStr {w : World} {A : Option Addr} {n : Nat} {xs : List ByteArray} (h : Kd.string.C w A n xs) {i : Int} (h0 : 0 ≤ i) (h1 : i < n) : ∃ ad, A = some ad ∧ CellsAt w (ad.add (i.toNat * 1)) [.string (xs.getD i.toNat ByteArray.empty)] := by
  obtain ⟨ad, c, e, hK, hc⟩ := Kd.atC h ByteArray.empty h0 h1
  obtain rfl := hK
  exact ⟨ad, e, hc⟩
theorem repsErr {es : List Addr} {w : World} {base : Nat} {ok : Nat → Prop} (xs : List Nat) : Reps ((kErr es).M w base ok) 1 xs (xs.flatMap fun n => [Value.iface 80 (.pointer (some (errAt es n)))]) := reps_flatMap (R := (kErr es).M w base ok) (size := 1) (fun n => [Value.iface 80 (.pointer (some (errAt es n)))]) (fun _ => rfl) (fun _ => rfl) xs
theorem repsStr {w : World} {base : Nat} {ok : Nat → Prop} (xs : List ByteArray) : Reps (Kd.string.M w base ok) 1 xs (xs.flatMap fun s => [Value.string s]) := reps_flatMap (R := Kd.string.M w base ok) (size := 1) (fun s => [Value.string s]) (fun _ => rfl) (fun _ => rfl) xs
end Go.Proofs.YtlnfgkafnpbeeaaDoor
