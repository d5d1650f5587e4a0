/- append(bs, s...): a text's bytes put behind a row of bytes. No condition. -/
import Derived.Test.YtkehomiogkoomaaDoorStr
set_option linter.unusedVariables false
set_option linter.unusedSimpArgs false
namespace Go.Proofs.YtkehomiogkoomaaDoor.RX
open Go Go.RowKit Go.Proofs.YtkehomiogkoomaaDoorW.PrintWords
section
variable {P : Program} {N : Nat} {ops : Array Oper} {qs : QS} {rest : List Oper} {o : Oper} {l : Slots} {w : World}
/-- append(bs, s...), s a text -/
theorem XL_appendStr {W : World} {s x : Operand} {t u : TypeId} (ho : o.op = .call { callee := .builtin .append, args := #[s, x], argTypes := #[t, u] }) (hg : gd ops l o = some true) (hd : okD N o.dst = true) (base e : Nat) (ht : P.underlying t = some (.slice e)) (hu : P.underlying u = some .string)
    (hinfo : (P.info? e).map (fun i => (i.zero, i.size, i.bytes)) = some (some (.int .u8 0), 1, 1)) {A : Option Addr} {n c : Nat} (xs : List Int) (y : ByteArray) (hv : evs l [s, x] = some [.slice A n c, .string y])
    (HO : (Kd.int .u8).R e W base (OkFrom base) (.slice A n c) xs) (hbase : base ≤ W.heap.size) (hl : xs.length + y.size ≤ 140737488355328)
    (hn : ∀ A1 c1 w1, (Kd.int .u8).R e w1 base (OkFrom base) (.slice A1 (xs ++ bytesOf y).length c1) (xs ++ bytesOf y) → (xs ++ bytesOf y).length ≤ c1 → W.grownBy w1 (A.map (·.block)) → (∀ k, A.map (·.block) = some k → base ≤ k) →
      XL P N ops rest qs (putS l o.dst (.slice A1 (xs ++ bytesOf y).length c1)) w1) : XL P N ops (o :: rest) qs l W := by
  refine XL_law hd hg fun a ha => ?_
  have he := evs_ok ha _ _ hv
  simp only [List.map_cons, List.map_nil, List.cons.injEq, and_true] at he
  refine print_append_str (o := { o with guard := none }) (w0 := W) base rfl s x t u e ho ht hu hinfo _ xs y he.1 he.2 (Kd.own_of_R HO) (Below.mono (Below.refl _ _) hbase) hbase hl ?_
  intro v1 w1 hown hB hgr
  have hR : (Kd.int .u8).R e w1 base (OkFrom base) v1 (xs ++ bytesOf y) := Kd.R_of_own hown (fun k hk => own_base hown k hk)
  obtain ⟨A1, c1, rfl, hc, _⟩ := Kd.R_reads hR
  rw [ownB] at hgr
  exact hn A1 c1 w1 hR hc hgr (fun k hk => HO.1 k (by rw [ownB]; exact hk)) _ (ha.putS hd _)
end
end Go.Proofs.YtkehomiogkoomaaDoor.RX
