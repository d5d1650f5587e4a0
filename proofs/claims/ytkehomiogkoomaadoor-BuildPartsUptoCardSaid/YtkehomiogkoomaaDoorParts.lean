/- Builders: operations that are cut in pieces, and inserts that change places with the deletes behind them. No condition. -/
import Derived.Test.YtkehomiogkoomaaDoorBld2
import Derived.Test.YtkehomiogkoomaaDoorUtf4
set_option linter.unusedVariables false
set_option linter.unusedSimpArgs false
set_option maxRecDepth 100000
namespace Go.Proofs.YtkehomiogkoomaaDoor
open Go Go.RowKit Go.Proofs.YtkehomiogkoomaaDoorW.PrintWords RX
namespace B
/-! ### a canonical list is its own -/
theorem can_fix {xs : List OpA} (h : Can xs) : can xs = xs := by
  obtain ⟨h1, _, _, h4, h5⟩ := of_can h
  unfold can
  rw [run_fix xs h1 h4]
  by_cases hd : xs.length ≠ 0 ∧ (lst xs).kind = 4
  · rw [if_pos hd]
    rcases snoc_cases xs with rfl | ⟨ys, a, rfl⟩
    · exact absurd rfl hd.1
    · rw [lst_snoc] at hd ⊢
      obtain ⟨_, ga⟩ := bad_snoc.1 h1
      have hcn := count_of_ok ga (.inr hd.2)
      rw [List.length_append, List.length_singleton, Nat.add_sub_cancel, List.take_left]
      unfold dels
      rw [if_neg (by show ¬ a.count = 0; omega), ← ok_del ga hd.2, fin_snoc, if_neg (fun k => by have := k.1; omega)]
  · rw [if_neg hd]
    show fin (dels xs 0) = xs
    rw [show dels xs 0 = xs from if_pos rfl]
    unfold fin
    rw [if_neg (fun k => h5.elim k.1 (fun h => h k.2))]
/-! ### pieces -/
theorem jo_assoc (c a b : OpA) : jo (jo c a) b = jo c (jo a b) := by
  unfold jo
  simp only
  rw [app_assoc, Int.add_assoc]
theorem push_push {X : List OpA} {a b : OpA} (hm : meets a b) : push (push X a) b = push X (jo a b) := by
  obtain ⟨m1, m2, m3⟩ := hm
  rcases snoc_cases X with rfl | ⟨ys, c, rfl⟩
  · rw [push_nil, ← List.nil_append [a], push_snoc, if_pos ⟨m1, m2, m3⟩]; rfl
  · rw [push_snoc, push_snoc]
    by_cases h : meets c a
    · have h2 : meets (jo c a) b := ⟨h.1.trans m1, m2, h.2.2.trans m3⟩
      have h3 : meets c (jo a b) := ⟨h.1, h.2.1, h.2.2⟩
      rw [if_pos h, if_pos h3, push_snoc, if_pos h2, jo_assoc]
    · have h3 : ¬ meets c (jo a b) := fun k => h ⟨k.1, k.2.1, k.2.2⟩
      rw [if_neg h, if_neg h3, push_snoc, if_pos ⟨m1, m2, m3⟩]
/-- l is o itself or two pieces of it -/
structure Two (o a b : OpA) : Prop where
  pa : pErr a = 0
  pb : pErr b = 0
  m : meets a b
  e : jo a b = o
  sb : opB a + opB b = opB o
  sr : opR a + opR b = opR o
  ft : fine o → fine a ∧ fine b
theorem step_two {o a b : OpA} (h : Two o a b) (s : St) : step (step s a) b = step s o := by
  have ka : a.kind = o.kind := by show (jo a b).kind = _; rw [h.e]
  have kb : b.kind = o.kind := by rw [← ka]; exact h.m.1.symm
  unfold step
  rw [ka, kb]
  by_cases k4 : o.kind = 4
  · rw [if_pos k4, if_pos k4, if_pos k4, ← h.e]
    show (s.1, s.2 + a.count + b.count) = (s.1, s.2 + (a.count + b.count))
    rw [Int.add_assoc]
  · rw [if_neg k4, if_neg k4, if_neg k4]
    by_cases k3 : o.kind = 3
    · rw [if_pos k3, if_pos k3, if_pos k3]
      show (push (dels (push (dels s.1 s.2) a) 0) b, (0 : Int)) = _
      rw [show dels (push (dels s.1 s.2) a) 0 = push (dels s.1 s.2) a from if_pos rfl, push_push h.m, h.e]
    · rw [if_neg k3, if_neg k3, if_neg k3]
      show (push (push s.1 a) b, s.2) = _
      rw [push_push h.m, h.e]
def kN (cs : List Int) (i : Nat) : Nat := (Int.tmod (IntKind.u64.wrap (cs.getD (i % cs.length) 0)) 1000).toNat
noncomputable def cutAt (o : OpA) (K : Nat) : Nat := if o.kind = 1 then K % (U.scz o.text).length else if o.kind ≠ 2 then K % o.count.toNat else 0
noncomputable def pA (o : OpA) (k : Nat) : OpA := if o.kind = 1 then ⟨o.kind, runesBytes ((U.scz o.text).take k), o.vk, o.vn, o.vt, o.count, o.attrs⟩ else if o.kind ≠ 2 then ⟨o.kind, o.text, o.vk, o.vn, o.vt, (k : Int), o.attrs⟩ else o
noncomputable def pB (o : OpA) (k : Nat) : OpA := if o.kind = 1 then ⟨o.kind, runesBytes ((U.scz o.text).drop k), o.vk, o.vn, o.vt, o.count, o.attrs⟩ else if o.kind ≠ 2 then ⟨o.kind, o.text, o.vk, o.vn, o.vt, o.count - (k : Int), o.attrs⟩ else o
noncomputable def pcs (o : OpA) (K : Nat) : List OpA := (if 0 < cutAt o K then [pA o (cutAt o K)] else []) ++ [pB o (cutAt o K)]
theorem scz_bytes (l : List Nat) : U.bl (runesBytes (l.map fun (r : Nat) => (r : Int))) = U.flat l := U.runesBytes_flat l
theorem scz_take (s : ByteArray) (k : Nat) : (U.scz s).take k = ((U.sc s).take k).map fun (r : Nat) => (r : Int) := (List.map_take ..).symm
theorem scz_drop (s : ByteArray) (k : Nat) : (U.scz s).drop k = ((U.sc s).drop k).map fun (r : Nat) => (r : Int) := (List.map_drop ..).symm
theorem scz_split {s : ByteArray} (h : U.utf s) (k : Nat) : runesBytes ((U.scz s).take k) ++ runesBytes ((U.scz s).drop k) = s := U.bl_inj (by
  rw [bl_append, scz_take, scz_drop, scz_bytes, scz_bytes, ← U.flat_append, List.take_append_drop, U.utf_flat h])
theorem vz_sub {s : ByteArray} {l : List Int} (h : ∀ r ∈ l, r ∈ U.scz s) : ∀ r ∈ l, U.vz r := fun r hr => U.sc_vz s r (h r hr)
theorem rb_ne {l : List Int} (hv : ∀ r ∈ l, U.vz r) (h : l ≠ []) : runesBytes l ≠ ⟨#[]⟩ := by
  intro e
  obtain ⟨u1, u2⟩ := U.text_utf hv
  rw [e] at u2
  have h1 := U.utf_flat (s := ⟨#[]⟩) (by rw [← e]; exact u1)
  have h2 : U.flat (U.sc ⟨#[]⟩) = [] := h1.symm
  have h3 := U.flat_le (U.sc ⟨#[]⟩)
  rw [h2] at h3
  have h4 : U.sc ⟨#[]⟩ = [] := List.eq_nil_of_length_eq_zero (Nat.le_zero.1 h3)
  rw [h4] at u2
  exact h u2.symm
theorem scz_pos {s : ByteArray} (hu : U.utf s) (h : s ≠ ⟨#[]⟩) : 0 < (U.scz s).length := by
  rcases Nat.eq_zero_or_pos (U.scz s).length with h0 | h0
  · refine absurd (U.bl_inj ?_) h
    have h1 : U.sc s = [] := List.eq_nil_of_length_eq_zero (by rw [← h0]; exact (List.length_map ..).symm)
    have h2 := U.utf_flat hu
    rw [h1] at h2
    exact h2
  · exact h0
theorem pcs_two {o : OpA} (ho : pErr o = 0) (K : Nat) (hk : 0 < cutAt o K) : Two o (pA o (cutAt o K)) (pB o (cutAt o K)) := by
  generalize hke : cutAt o K = k at hk
  unfold cutAt at hke
  rcases kind_of_ok ho with k1 | k2 | k3 | k4
  · rw [if_pos k1] at hke
    obtain ⟨c0, v1, v2, v3, t0, u0, s0⟩ := ok_ins ho k1
    have hn := scz_pos u0 t0
    have hkn : k < (U.scz o.text).length := by rw [← hke]; exact Nat.mod_lt _ hn
    unfold pA pB
    rw [if_pos k1, if_pos k1, k1, c0, v1, v2, v3]
    have z1 : ∀ r ∈ (U.scz o.text).take k, U.vz r := vz_sub fun r hr => List.mem_of_mem_take hr
    have z2 : ∀ r ∈ (U.scz o.text).drop k, U.vz r := vz_sub fun r hr => List.mem_of_mem_drop hr
    have n1 : (U.scz o.text).take k ≠ [] := fun e => absurd (congrArg List.length e) (by rw [List.length_take, List.length_nil]; omega)
    have n2 : (U.scz o.text).drop k ≠ [] := fun e => absurd (congrArg List.length e) (by rw [List.length_drop, List.length_nil]; omega)
    have g1 := ok_mkT (rb_ne z1 n1) (U.text_utf z1).1 s0
    have g2 := ok_mkT (rb_ne z2 n2) (U.text_utf z2).1 s0
    have hm : meets (⟨1, runesBytes ((U.scz o.text).take k), 0, 0, ⟨#[]⟩, 0, o.attrs⟩ : OpA) ⟨1, runesBytes ((U.scz o.text).drop k), 0, 0, ⟨#[]⟩, 0, o.attrs⟩ := ⟨rfl, by show (1 : Int) ≠ 2; decide, rfl⟩
    have he : jo ⟨1, runesBytes ((U.scz o.text).take k), 0, 0, ⟨#[]⟩, 0, o.attrs⟩ ⟨1, runesBytes ((U.scz o.text).drop k), 0, 0, ⟨#[]⟩, 0, o.attrs⟩ = o := by
      unfold jo; simp only; rw [scz_split u0]; cases o; simp only at *; subst k1 c0 v1 v2 v3; rfl
    obtain ⟨j1, j2, j3⟩ := jo_ok g1 g2 hm (by show (1 : Int) ≠ 4; decide) (fun h => by cases h)
    rw [he] at j2 j3
    exact ⟨g1, g2, hm, he, j2.symm, j3.symm, fun f => ⟨⟨Nat.zero_le _, f.2⟩, ⟨Nat.zero_le _, f.2⟩⟩⟩
  · rw [if_neg (by omega), if_neg (fun h => h k2)] at hke; omega
  · rw [if_neg (by omega), if_pos (by omega)] at hke
    obtain ⟨e0, s0⟩ := ok_ret ho k3
    have hc := count_of_ok ho (.inl k3)
    have hkn : k < o.count.toNat := by rw [← hke]; exact Nat.mod_lt _ (by omega)
    unfold pA pB
    rw [if_neg (by omega), if_pos (by omega), if_neg (by omega), if_pos (by omega), e0]
    have g1 := ok_mkR (n := (k : Int)) (by omega) (by show _ ≤ (1099511627776 : Int); omega) s0
    have g2 := ok_mkR (n := o.count - (k : Int)) (by omega) (by show _ ≤ (1099511627776 : Int); omega) s0
    have hm : meets (⟨3, ⟨#[]⟩, 0, 0, ⟨#[]⟩, (k : Int), o.attrs⟩ : OpA) ⟨3, ⟨#[]⟩, 0, 0, ⟨#[]⟩, o.count - (k : Int), o.attrs⟩ := ⟨rfl, by show (3 : Int) ≠ 2; decide, rfl⟩
    have he : jo ⟨3, ⟨#[]⟩, 0, 0, ⟨#[]⟩, (k : Int), o.attrs⟩ ⟨3, ⟨#[]⟩, 0, 0, ⟨#[]⟩, o.count - (k : Int), o.attrs⟩ = ⟨3, ⟨#[]⟩, 0, 0, ⟨#[]⟩, o.count, o.attrs⟩ := by
      unfold jo; simp only; rw [app_empty, show (k : Int) + (o.count - (k : Int)) = o.count by omega]
    obtain ⟨j1, j2, j3⟩ := jo_ok g1 g2 hm (by show (3 : Int) ≠ 4; decide) (fun _ => by show (k : Int) + (o.count - (k : Int)) ≤ (1099511627776 : Int); omega)
    rw [he] at j2 j3
    exact ⟨g1, g2, hm, he, j2.symm, j3.symm, fun f => ⟨f, f⟩⟩
  · rw [if_neg (by omega), if_pos (by omega)] at hke
    have e0 := ok_del ho k4
    have hc := count_of_ok ho (.inr k4)
    have hkn : k < o.count.toNat := by rw [← hke]; exact Nat.mod_lt _ (by omega)
    have ea : pA o k = gone (k : Int) := by
      unfold pA; rw [if_neg (by omega), if_pos (by omega), e0]; rfl
    have eb : pB o k = gone (o.count - (k : Int)) := by
      unfold pB; rw [if_neg (by omega), if_pos (by omega), e0]; rfl
    rw [ea, eb]
    refine ⟨ok_gone (by omega) (by show _ ≤ (1099511627776 : Int); omega), ok_gone (by omega) (by show _ ≤ (1099511627776 : Int); omega), ⟨rfl, by show (4 : Int) ≠ 2; decide, rfl⟩, ?_, ?_, ?_, fun _ => ⟨fine_gone _, fine_gone _⟩⟩
    · rw [e0]; unfold jo gone; simp only
      rw [show (k : Int) + (o.count - (k : Int)) = o.count by omega]; rfl
    · rw [opB_gone, opB_gone, opB_cnt (.inr k4)]; omega
    · rw [opR_gone, opR_gone, opR_del k4]; rfl
theorem pcs_one {o : OpA} (ho : pErr o = 0) (K : Nat) (hk : ¬ 0 < cutAt o K) : pB o (cutAt o K) = o := by
  have h0 : cutAt o K = 0 := by omega
  rw [h0]
  unfold pB
  by_cases k1 : o.kind = 1
  · obtain ⟨_, _, _, _, _, u0, _⟩ := ok_ins ho k1
    rw [if_pos k1, List.drop_zero, show runesBytes (U.scz o.text) = o.text from U.text_back u0]
  · rw [if_neg k1]
    by_cases k2 : o.kind ≠ 2
    · rw [if_pos k2, show o.count - ((0 : Nat) : Int) = o.count by omega]
    · rw [if_neg k2]
/-- the pieces of the first i operations -/
noncomputable def parts (ys : List OpA) (cs : List Int) : Nat → List OpA
  | 0 => []
  | i + 1 => parts ys cs i ++ pcs (ys.getD i op0) (kN cs i)
/-- xs does what ys does -/
structure Alk (xs ys : List OpA) : Prop where
  r : run xs = run ys
  g : badE xs = 0
  b : sB xs = sB ys
  c : sR xs = sR ys
  t : txS xs ≤ txS ys
  f : ∀ o ∈ xs, fine o
theorem tx_two {o a b : OpA} (h : Two o a b) : a.text.size + b.text.size = o.text.size := by
  have := congrArg (fun o : OpA => o.text.size) h.e
  show _ = o.text.size
  rw [← this]
  exact (size_app _ _).symm
theorem alk_pcs {xs zs : List OpA} {o : OpA} (h : Alk xs zs) (ho : pErr o = 0) (hf : fine o) (K : Nat) : Alk (xs ++ pcs o K) (zs ++ [o]) := by
  unfold pcs
  by_cases hk : 0 < cutAt o K
  · have t := pcs_two ho K hk
    rw [if_pos hk]
    obtain ⟨f1, f2⟩ := t.ft hf
    have ht := tx_two t
    rw [show xs ++ ([pA o (cutAt o K)] ++ [pB o (cutAt o K)]) = (xs ++ [pA o (cutAt o K)]) ++ [pB o (cutAt o K)] from (List.append_assoc ..).symm]
    refine ⟨?_, bad_snoc.2 ⟨bad_snoc.2 ⟨h.g, t.pa⟩, t.pb⟩, ?_, ?_, ?_, ?_⟩
    · rw [run_snoc, run_snoc, run_snoc, h.r, step_two t]
    · have := h.b; have := t.sb; rw [sB_snoc, sB_snoc, sB_snoc]; omega
    · have := h.c; have := t.sr; rw [sR_snoc, sR_snoc, sR_snoc]; omega
    · have := h.t; rw [txS_snoc, txS_snoc, txS_snoc]; omega
    · intro x hx
      rcases List.mem_append.1 hx with hx | hx
      · rcases List.mem_append.1 hx with hx | hx
        · exact h.f x hx
        · rw [List.mem_singleton.1 hx]; exact f1
      · rw [List.mem_singleton.1 hx]; exact f2
  · rw [if_neg hk, pcs_one ho K hk, List.nil_append]
    refine ⟨by rw [run_snoc, run_snoc, h.r], bad_snoc.2 ⟨h.g, ho⟩, by have := h.b; rw [sB_snoc, sB_snoc]; omega, by have := h.c; rw [sR_snoc, sR_snoc]; omega, by have := h.t; rw [txS_snoc, txS_snoc]; omega, fun x hx => ?_⟩
    rcases List.mem_append.1 hx with hx | hx
    · exact h.f x hx
    · rw [List.mem_singleton.1 hx]; exact hf
theorem alk_nil : Alk [] [] := ⟨rfl, rfl, rfl, rfl, Nat.le_refl _, fun o ho => by cases ho⟩
theorem parts_alk {ys : List OpA} (cs : List Int) (hg : badE ys = 0) (hf : ∀ o ∈ ys, fine o) : ∀ i, i ≤ ys.length → Alk (parts ys cs i) (ys.take i)
  | 0, _ => by rw [List.take_zero]; exact alk_nil
  | i + 1, h => by
    rw [take_snocD op0 ys i (by omega)]
    exact alk_pcs (parts_alk cs hg hf i (by omega)) (badE_getD hg (by omega)) (hf _ (getD_mem op0 (by omega))) _
theorem pcs_len (o : OpA) (K : Nat) : (pcs o K).length ≤ 2 := by
  unfold pcs
  split <;> simp
theorem parts_len (ys : List OpA) (cs : List Int) : ∀ i, (parts ys cs i).length ≤ 2 * i
  | 0 => Nat.le_refl _
  | i + 1 => by
    have h1 := parts_len ys cs i
    have h2 := pcs_len (ys.getD i op0) (kN cs i)
    show (parts ys cs i ++ _).length ≤ _
    rw [List.length_append]
    omega
theorem step_turn {a o : OpA} (ha : a.kind = 1 ∨ a.kind = 2) (ho : o.kind = 4) (s : St) : step (step s o) a = step (step s a) o := by
  unfold step
  rw [if_pos ho, if_pos ho, if_neg (by omega), if_neg (by omega), if_neg (by omega), if_neg (by omega)]
theorem alk_add {xs zs : List OpA} {o : OpA} (h : Alk xs zs) (ho : pErr o = 0) (hf : fine o) : Alk (xs ++ [o]) (zs ++ [o]) := by
  refine ⟨by rw [run_snoc, run_snoc, h.r], bad_snoc.2 ⟨h.g, ho⟩, by have := h.b; rw [sB_snoc, sB_snoc]; omega, by have := h.c; rw [sR_snoc, sR_snoc]; omega, by have := h.t; rw [txS_snoc, txS_snoc]; omega, fun x hx => ?_⟩
  rcases List.mem_append.1 hx with hx | hx
  · exact h.f x hx
  · rw [List.mem_singleton.1 hx]; exact hf
theorem alk_turn {xs zs : List OpA} {o : OpA} (h : Alk xs zs) (ho : pErr o = 0) (hf : fine o) (h4 : o.kind = 4) (h0 : 0 < xs.length) (ha : (xs.getD (xs.length - 1) op0).kind = 1 ∨ (xs.getD (xs.length - 1) op0).kind = 2) : Alk (xs.take (xs.length - 1) ++ [o, xs.getD (xs.length - 1) op0]) (zs ++ [o]) := by
  rcases snoc_cases xs with rfl | ⟨ys, a, rfl⟩
  · exact absurd h0 (by simp)
  · have e : (ys ++ [a]).getD ((ys ++ [a]).length - 1) op0 = a := lst_snoc ys a
    rw [e] at ha ⊢
    rw [show (ys ++ [a]).length - 1 = ys.length by rw [List.length_append, List.length_singleton, Nat.add_sub_cancel], List.take_left, show ys ++ [o, a] = (ys ++ [o]) ++ [a] by rw [List.append_assoc]; rfl]
    obtain ⟨g1, g2⟩ := bad_snoc.1 h.g
    refine ⟨?_, bad_snoc.2 ⟨bad_snoc.2 ⟨g1, ho⟩, g2⟩, ?_, ?_, ?_, fun x hx => ?_⟩
    · rw [run_snoc, run_snoc, run_snoc, ← h.r, run_snoc, step_turn ha h4]
    · have h1 := h.b; rw [sB_snoc] at h1; rw [sB_snoc, sB_snoc, sB_snoc]; omega
    · have h1 := h.c; rw [sR_snoc] at h1; rw [sR_snoc, sR_snoc, sR_snoc]; omega
    · have h1 := h.t; rw [txS_snoc] at h1; rw [txS_snoc, txS_snoc, txS_snoc]; omega
    · rcases List.mem_append.1 hx with hx | hx
      · rcases List.mem_append.1 hx with hx | hx
        · exact h.f x (List.mem_append_left _ hx)
        · rw [List.mem_singleton.1 hx]; exact hf
      · rw [List.mem_singleton.1 hx]; exact h.f a (by simp)
/-- the same delta -/
theorem alk_can {xs ys : List OpA} (h : Alk xs ys) (hc : Can ys) : (bOf xs).2 = 0 ∧ can xs = ys := by
  obtain ⟨h1, h2, h3, _, _⟩ := of_can hc
  refine ⟨by rw [bOf_of h.g (by rw [h.b]; exact h2) (by rw [h.c]; exact h3)], ?_⟩
  unfold can
  rw [h.r]
  exact can_fix hc
theorem alk_trans {xs ys zs : List OpA} (h : Alk xs ys) (k : Alk ys zs) : Alk xs zs := ⟨h.r.trans k.r, h.g, h.b.trans k.b, h.c.trans k.c, Nat.le_trans h.t k.t, h.f⟩
theorem alk_sz {xs ys : List OpA} (h : Alk xs ys) (ht : txS ys ≤ 50000000) : ∀ i, i < xs.length → opSz (xs.getD i op0) := by
  intro i hi
  have hm := getD_mem op0 hi
  have h1 := txS_mem hm
  have h2 := h.t
  exact sz_of (h.f _ hm) (by omega)
theorem can_tx {xs : List OpA} (h : ∀ o ∈ xs, fine o) : txS (can xs) ≤ txS xs := by
  obtain ⟨h1, h2⟩ := run_sz xs h
  obtain ⟨d1, d2⟩ := dels_sz (g := (run xs).2) h1
  unfold can fin
  split
  · have := txS_take (dels (run xs).1 (run xs).2) ((dels (run xs).1 (run xs).2).length - 1); omega
  · omega
/-! ### as the walk has them -/
theorem u64_nn (x : Int) : 0 ≤ IntKind.u64.wrap x := by rw [IntKind.wrap_u64]; omega
theorem kN_eq (cs : List Int) (i : Nat) {q : Nat} (h : q = i % cs.length) : ∃ K : Nat, Int.tmod (IntKind.u64.wrap (rd cs (q : Int))) 1000 = (K : Int) ∧ K < 1000 ∧ K = kN cs i := by
  have h0 := u64_nn (rd cs (q : Int))
  have h1 : 0 ≤ Int.tmod (IntKind.u64.wrap (rd cs (q : Int))) 1000 ∧ Int.tmod (IntKind.u64.wrap (rd cs (q : Int))) 1000 < 1000 := by
    rw [Int.tmod_eq_emod_of_nonneg h0]; omega
  refine ⟨kN cs i, ?_, ?_, rfl⟩
  · unfold kN
    rw [← h, Int.toNat_of_nonneg]
    · rfl
    · exact h1.1
  · unfold kN
    rw [← h]
    have : (Int.tmod (IntKind.u64.wrap (cs.getD q 0)) 1000) = Int.tmod (IntKind.u64.wrap (rd cs (q : Int))) 1000 := rfl
    omega
theorem tm_nat2 (x n : Nat) (h : 0 < n) : ∃ q : Nat, Int.tmod (x : Int) (n : Int) = (q : Int) ∧ q < n ∧ q = x % n := ⟨x % n, by rw [Int.tmod_eq_emod_of_nonneg (by omega)]; rfl, Nat.mod_lt _ h, rfl⟩
theorem tm_int (x : Nat) (n : Int) (h : 0 < n) : ∃ q : Nat, Int.tmod (x : Int) n = (q : Int) ∧ (q : Int) < n ∧ q = x % n.toNat := by
  obtain ⟨q, h1, h2, h3⟩ := tm_nat2 x n.toNat (by omega)
  rw [Int.toNat_of_nonneg (by omega)] at h1
  exact ⟨q, h1, by omega, h3⟩
theorem pcs_txt {o : OpA} {K k : Nat} (k1 : o.kind = 1) (hk : k = K % (U.scz o.text).length) : pcs o K = (if 0 < k then [⟨o.kind, runesBytes ((U.scz o.text).take k), o.vk, o.vn, o.vt, o.count, o.attrs⟩] else []) ++ [⟨o.kind, runesBytes ((U.scz o.text).drop k), o.vk, o.vn, o.vt, o.count, o.attrs⟩] := by
  have e : cutAt o K = k := by unfold cutAt; rw [if_pos k1, hk]
  unfold pcs
  rw [e]
  unfold pA pB
  rw [if_pos k1, if_pos k1]
theorem pcs_cnt {o : OpA} {K k : Nat} (k1 : o.kind ≠ 1) (k2 : o.kind ≠ 2) (hk : k = K % o.count.toNat) : pcs o K = (if 0 < k then [⟨o.kind, o.text, o.vk, o.vn, o.vt, (k : Int), o.attrs⟩] else []) ++ [⟨o.kind, o.text, o.vk, o.vn, o.vt, o.count - (k : Int), o.attrs⟩] := by
  have e : cutAt o K = k := by unfold cutAt; rw [if_neg k1, if_pos k2, hk]
  unfold pcs
  rw [e]
  unfold pA pB
  rw [if_neg k1, if_pos k2, if_neg k1, if_pos k2]
theorem pcs_emb {o : OpA} {K : Nat} (k2 : o.kind = 2) : pcs o K = [o] := by
  have e : cutAt o K = 0 := by unfold cutAt; rw [if_neg (by omega), if_neg (fun h => h k2)]
  unfold pcs
  rw [e]
  unfold pB
  rw [if_neg (by omega), if_neg (by omega), if_neg (fun h => h k2)]; rfl
end B
end Go.Proofs.YtkehomiogkoomaaDoor
