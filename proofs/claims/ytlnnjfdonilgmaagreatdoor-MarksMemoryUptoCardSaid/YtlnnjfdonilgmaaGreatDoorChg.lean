import Derived.Test.YtlnnjfdonilgmaaGreatDoorOp
import Derived.Test.YtlnnjfdonilgmaaGreatDoorMap
import Derived.Laws.AppendOwn
/- Elements with memory of their own beside a row; rows of operations that share their attributes' memory. No condition. -/

set_option linter.unusedVariables false
set_option linter.unusedSimpArgs false
set_option maxRecDepth 100000
namespace Go.Proofs.YtlnnjfdonilgmaaGreatDoor.RX
open Go Go.RowKit Go.Proofs.YtlnnjfdonilgmaaGreatDoorW.PrintWords

theorem Kd.M_apart {α β:Type}{d:Kd α}{d':Kd β}{e':Nat}{w:World}{base base':Nat}{x:α}{cs:List Value}{A:Option Addr}{n c:Nat}{ys:List β}{ok':Nat→Prop}(h:d.M w base (OkFrom base) x cs)(hb:base'≤base)
    (h':d'.R e' w base' ok' (.slice A n c) ys) (hne:d.E.contains e'=false):∃ okp,d.M w base' okp x cs∧∀ k,okp k→OkFrom base' k∧some k≠A.map (·.block):=by
  cases A with
  | none=>exact⟨OkFrom base,d.M_lower hb h,fun k hk=>⟨Nat.le_trans hb hk,by simp⟩⟩
  | some ad=>
    obtain⟨inner,ho⟩:=Kd.R_own h'
    obtain⟨cells,hbl⟩:=own_typed ho ad.block rfl
    refine⟨_,d.M_lower hb (d.M_bound h),fun k hk=>⟨Nat.le_trans hb hk.1,fun e=>?_⟩⟩
    obtain⟨_,_,_,q,hq,cs',hc⟩:=hk
    obtain rfl:k=ad.block:=by simpa using e
    rw[hbl]at hc
    injection hc with hc
    injection hc with _ hq' _
    subst hq'
    rw[List.contains_iff_mem.2 hq]at hne
    cases hne
theorem kOp_M0 {w:World}{base:Nat}{ok:Nat→Prop}(x:OpA)(h:x.attrs=[]):kOp.M w base ok x (opV x none 0):=by
  obtain⟨k,t,a,b,s,c,at9⟩:=x
  obtain rfl:at9=[]:=h
  exact kOp_M kAttrs_nil
theorem repsOp0 {w:World}{base:Nat}{ok:Nat→Prop}:∀ (xs:List OpA),(∀ x∈xs,x.attrs=[])→Reps (kOp.M w base ok) 7 xs (xs.flatMap fun x=>opV x none 0)
  | [],_=>Reps.none _ _
  | x::xs,h=>by
    have hs:Reps (kOp.M w base ok) 7 [x] (opV x none 0):=by
      have:=(Reps.none (kOp.M w base ok) 7).snoc (kOp_M0 x (h x List.mem_cons_self)) rfl
      simpa using this
    have:=Kd.reps_append hs (repsOp0 xs fun y hy=>h y (List.mem_cons_of_mem _ hy))
    simpa using this

def kRaw (n:Nat):Kd (List Value) where
  sz:=n
  E:=[]
  K:=fun _ x cs=>cs=x∧x.length=n∧∀ u∈x,u.oneCell'=true
  M:=fun _ _ _ x cs=>cs=x∧x.length=n∧∀ u∈x,u.oneCell'=true
  K_len:=fun h=>by rw[h.1]; exact h.2.1
  K_one:=fun h=>by rw[h.1]; exact h.2.2
  K_below:=fun _ h=>h
  K_of_M:=fun h=>h
  M_mono:=fun _ h=>h
  M_bound:=fun h=>h
  M_move:=fun _ h=>h
  M_lower:=fun _ h=>h
theorem Kd.C_ofRaw {α:Type}{d:Kd α}(z:α){w:World}{A:Option Addr}{n:Nat}{xs:List α}{vs:List (List Value)}(h:(kRaw d.sz).C w A n vs)(hl:xs.length=n)(hK:∀ i,i<n→d.K w (xs.getD i z) (vs.getD i [])):d.C w A n xs:=by
  obtain⟨h1,h2,h3⟩:=h
  refine⟨hl,h2,fun h0=>?_⟩
  obtain⟨ad,e,hc⟩:=h3 h0
  refine⟨ad,e,fun j p hj=>?_⟩
  have hj1:=(List.getElem?_eq_some_iff.1 hj).1
  have hj2:j<vs.length:=by omega
  obtain⟨c,a,b,cc⟩:=hc j _ (List.getElem?_eq_getElem hj2)
  have hk:=hK j (by omega)
  rw[List.getD_eq_getElem?_getD,hj,List.getD_eq_getElem?_getD,List.getElem?_eq_getElem hj2]at hk
  obtain⟨rfl,_⟩:=b
  exact⟨_,a,hk,cc⟩

section
variable {α : Type} {d : Kd α} {z : α} {e : Nat} {W0 W w w1 : World} {A A' : Option Addr} {n c m c' : Nat} {xs ys : List α}
end
theorem Kd.R_take {α:Type}{d:Kd α}{e:Nat}{w:World}{base:Nat}{ok:Nat→Prop}{A:Option Addr}{n c m:Nat}{xs:List α}(h:d.R e w base ok (.slice A n c) xs)(hm:m≤n):d.R e w base ok (.slice A m c) (xs.take m):=by
  obtain⟨h0,inner,ho,hr⟩:=h
  have hn:xs.length=n:=by
    rcases ho.2 with ⟨h1,h2⟩|⟨g,cap,cur,he,_⟩
    · injection h1 with _ h1; omega
    · injection he with _ h1; exact h1.symm
  have hlm:(xs.take m).length=m:=by rw[List.length_take]; omega
  have hms:m*d.sz≤n*d.sz:=Nat.mul_le_mul_right _ hm
  have hob:(Value.slice A m c).ownBlock=(Value.slice A n c).ownBlock:=by rw[ownB,ownB]
  refine⟨fun k hk=>h0 k (hob▸hk),inner.take (m*d.sz),⟨?_,?_⟩,?_,fun j p hj=>?_⟩
  · rw[List.length_take,ho.1,hn,hlm]; omega
  · rw[hlm]
    rcases ho.2 with ⟨h1,h2⟩|⟨g,cap,cur,he,hb,hh,hn2,hm2,hs,ht⟩
    · injection h1 with h1 h3 h4
      refine .inl ⟨?_,by omega⟩
      rw[h1,h4,show m=0 from by omega]
    · injection he with h1 h3 h4
      refine .inr ⟨g,cap,cur,?_,hb,hh,by omega,hm2,hs,?_⟩
      · rw[h1,h4]
      · rw[←ht,List.take_take,hn,Nat.min_eq_left hms]
  · rw[List.length_take,hr.1,hn,hlm]; omega
  · have hj1:=(List.getElem?_eq_some_iff.1 hj).1
    rw[hlm]at hj1
    rw[List.getElem?_take,if_pos hj1]at hj
    have:=hr.2 j p hj
    rw[List.drop_take,List.take_take]
    have h5:(j+1)*d.sz≤m*d.sz:=Nat.mul_le_mul_right _ hj1
    rw[Nat.succ_mul]at h5
    rw[Nat.min_eq_left (by omega)]
    rw[hob]
    exact this
theorem Kd.R_off {α:Type}{d:Kd α}{e:Nat}{w w1:World}{base:Nat}{ok:Nat→Prop}{v:Value}{xs:List α}(h:d.R e w base ok v xs){g t:Nat}{cs:Array Value}(hb:RX.Blk w g t cs)(hne:(e::d.E).contains t=false)(hg:w.grownBy w1 (some g)):d.R e w1 base ok v xs:=by
  have h2:=Kd.R_types h hb (fun q hq e=>by subst e; rw[List.contains_iff_mem.2 hq]at hne; cases hne)
  exact Kd.R_mono (Kd.R_grown h2 hg (fun k hk e=>by injection e with e; exact hk.2 e)) (fun _ hk=>hk.1)
theorem reps_raw {n:Nat}{w:World}{base:Nat}{ok:Nat→Prop}:∀ (vss:List (List Value)),(vss.all fun v=>v.length==n&&v.all fun u=>u.oneCell')=true→Reps ((kRaw n).M w base ok) n vss vss.flatten
  | [],_=>Reps.none _ _
  | v::r,h=>by
    simp only[List.all_cons,Bool.and_eq_true,beq_iff_eq]at h
    have hs:Reps ((kRaw n).M w base ok) n [v] v:=by
      have:=(Reps.none ((kRaw n).M w base ok) n).snoc (p:=v) (c:=v) ⟨rfl,h.1.1,fun u hu=>List.all_eq_true.1 h.1.2 u hu⟩ h.1.1
      simpa using this
    have:=Kd.reps_append hs (reps_raw r (by rw[h.2]))
    simpa using this
theorem C_lit1 {w:World}{A:Option Addr}{a:OpA}{vs:List (List Value)}(h:(kRaw 7).C w A 1 vs)(ha:kOp.K w a (vs.getD 0 [])):kOp.C w A 1 [a]:=
  Kd.C_ofRaw (d:=kOp) op0 h rfl fun i hi=>by
    obtain rfl:i=0:=by omega
    exact ha
structure Chg (S:Nat→Prop) (w w':World):Prop where
  os:w'.os=w.os
  tape:w'.tape=w.tape
  output:w'.output=w.output
  size:w.heap.size≤w'.heap.size
  k:∀ g,g<w.heap.size→¬S g→w'.heap[g]?=w.heap[g]?
section
variable {S S' : Nat → Prop} {w w1 w2 : World}
theorem Chg.refl (S:Nat→Prop)(w:World):Chg S w w:=⟨rfl,rfl,rfl,Nat.le_refl _,fun _ _ _=>rfl⟩
theorem Chg.below (h:Below w.heap.size w w1):Chg S w w1:=⟨h.os,h.tape,h.output,h.size,fun g hg _=>h.block g hg⟩
theorem Chg.grown {r:Option Nat}(h:w.grownBy w1 r)(hr:∀ k,r=some k→S k):Chg S w w1:=⟨h.os,h.tape,h.output,h.size,fun g hg hS=>h.block g hg fun e=>hS (hr g e.symm)⟩
theorem Chg.trans (h:Chg S w w1)(k:Chg S' w1 w2)(hi:∀ g,g<w.heap.size→S' g→S g):Chg S w w2:=
  ⟨k.os.trans h.os,k.tape.trans h.tape,k.output.trans h.output,Nat.le_trans h.size k.size,fun g hg hS=>(k.k g (Nat.lt_of_lt_of_le hg h.size) fun h2=>hS (hi g hg h2)).trans (h.k g hg hS)⟩
theorem Chg.imp (h:Chg S w w1)(hi:∀ g,S g→S' g):Chg S' w w1:=⟨h.os,h.tape,h.output,h.size,fun g hg hS=>h.k g hg fun h2=>hS (hi g h2)⟩
theorem Chg.lo (h:Chg S w w1){n:Nat}(hn:n≤w.heap.size)(hd:∀ g,S g→n≤g):Below n w w1:=⟨h.os,h.tape,h.output,h.size,fun g hg=>h.k g (Nat.lt_of_lt_of_le hg hn) fun h2=>absurd (hd g h2) (Nat.not_le.2 hg)⟩
theorem Chg.blk (h:Chg S w w1){g t:Nat}{cs:Array Value}(hb:RX.Blk w g t cs)(hn:¬S g):RX.Blk w1 g t cs:=(h.k g hb.lt hn).trans hb
theorem Chg.map (h:Chg S w w1){P:Program}{kt:TypeId}{R:MapR}{B:Nat}{L:List (Lit×DataW Unit)}(hm:MapL P kt R w B L)(hn:¬S B):MapL P kt R w1 B L:=by
  obtain⟨es,clock,hk,r⟩:=hm
  exact⟨es,clock,(h.k B (Array.getElem?_eq_some_iff.1 hk).1 hn).trans hk,r⟩
theorem Chg.R (h:Chg S w w1){α:Type}{d:Kd α}{e base:Nat}{ok:Nat→Prop}{v:Value}{xs:List α}(hR:d.R e w base ok v xs)(hd:∀ g,ok g→¬S g):d.R e w1 base ok v xs:=
  Kd.R_mono (Kd.R_move (Kd.R_bound hR) fun k hk=>h.k k hk.2.2.1 (hd k hk.1)) fun _ hk=>hk.1
theorem MapL.ne {P:Program}{kt:TypeId}{R:MapR}{B g t:Nat}{L:List (Lit×DataW Unit)}{cs:Array Value}(hm:MapL P kt R w B L)(hb:RX.Blk w g t cs):g≠B:=by
  rintro rfl
  obtain⟨es,clock,hk,_⟩:=hm
  rw[show w.heap[g]?=_ from hb]at hk
  cases hk
theorem MapL.blk {P:Program}{kt:TypeId}{R:MapR}{B g t:Nat}{L:List (Lit×DataW Unit)}{cs:Array Value}(hm:MapL P kt R w B L)(hb:RX.Blk w g t cs)(hg:w.grownBy w1 (some B)):RX.Blk w1 g t cs:=(hg.block g hb.lt fun e=>hm.ne hb (Option.some.inj e)).trans hb
theorem MapL.row {P:Program}{kt:TypeId}{R:MapR}{B:Nat}{L:List (Lit×DataW Unit)}(hm:MapL P kt R w B L){α:Type}{d:Kd α}{e base:Nat}{ok:Nat→Prop}{v:Value}{xs:List α}(hR:d.R e w base ok v xs)(hg:w.grownBy w1 (some B)):d.R e w1 base ok v xs:=
  Kd.R_mono (Kd.R_move (Kd.R_bound hR) fun k hk=>by
    obtain⟨_,_,h3,_,_,cells,hc⟩:=hk
    exact hg.block k h3 fun e=>hm.ne (show RX.Blk w k _ cells from hc) (Option.some.inj e)) fun _ hk=>hk.1
end
end Go.Proofs.YtlnnjfdonilgmaaGreatDoor.RX
