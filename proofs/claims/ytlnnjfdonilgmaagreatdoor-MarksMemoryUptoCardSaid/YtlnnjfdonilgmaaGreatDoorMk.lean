import Derived.Test.YtlnnjfdonilgmaaGreatDoorChg
import Derived.Test.YtlnnjfdonilgmaaGreatDoorMap
import Derived.Stop.Asserts
/- Rows of elements with memory of their own: read with their memory, written, joined, copied; what a step over two blocks leaves. No condition. -/

set_option linter.unusedVariables false
set_option linter.unusedSimpArgs false
namespace Go.Proofs.YtlnnjfdonilgmaaGreatDoor.RX
open Go Go.RowKit Go.Proofs.YtlnnjfdonilgmaaGreatDoorW.PrintWords

theorem Kd.R_raw2 {α:Type}{d:Kd α}(z:α){e:Nat}{w:World}{base:Nat}{ok:Nat→Prop}{A:Option Addr}{n c:Nat}{xs:List α}(h:d.R e w base ok (.slice A n c) xs):∃ vs,(kRaw d.sz).R e w base ok (.slice A n c) vs∧vs.length=xs.length∧∀ i,i<xs.length→d.M w base (fun k=>ok k∧some k≠A.map (·.block)) (xs.getD i z) (vs.getD i []):=by
  obtain⟨h0,inner,ho,hr⟩:=h
  have hd:∀ i,i<xs.length→d.M w base (fun k=>ok k∧some k≠A.map (·.block)) (xs.getD i z) ((inner.drop (i*d.sz)).take d.sz):=by
    intro i hi
    have:=hr.2 i _ (List.getElem?_eq_getElem hi)
    rw[List.getD_eq_getElem?_getD,List.getElem?_eq_getElem hi]
    rw[ownB]at this
    exact this
  have hg:∀ i,i<xs.length→((List.range xs.length).map fun i=>(inner.drop (i*d.sz)).take d.sz).getD i []=(inner.drop (i*d.sz)).take d.sz:=by
    intro i hi
    rw[List.getD_eq_getElem?_getD,List.getElem?_map,List.getElem?_range hi]; rfl
  refine⟨(List.range xs.length).map fun i=>(inner.drop (i*d.sz)).take d.sz,⟨h0,inner,by rw[List.length_map,List.length_range]; exact ho,?_,fun j p hj=>?_⟩,by simp,fun i hi=>?_⟩
  · rw[List.length_map,List.length_range]; exact hr.1
  · have hj1:=(List.getElem?_eq_some_iff.1 hj).1
    rw[List.length_map,List.length_range]at hj1
    rw[List.getElem?_map,List.getElem?_range hj1]at hj
    injection hj with hj
    subst hj
    have hM:=hd j hj1
    exact⟨rfl,d.K_len (d.K_of_M hM),d.K_one (d.K_of_M hM)⟩
  · rw[hg i hi]; exact hd i hi
theorem Kd.R_ofRaw {α:Type}{d:Kd α}(z:α){e:Nat}{w:World}{base:Nat}{ok:Nat→Prop}{A:Option Addr}{n c:Nat}{xs:List α}{vs:List (List Value)}(h:(kRaw d.sz).R e w base ok (.slice A n c) vs)(hl:vs.length=xs.length)(hM:∀ i,i<xs.length→d.M w base (fun k=>ok k∧some k≠A.map (·.block)) (xs.getD i z) (vs.getD i [])):d.R e w base ok (.slice A n c) xs:=by
  obtain⟨h0,inner,ho,hr⟩:=h
  refine⟨h0,inner,by rw[←hl]; exact ho,by rw[←hl]; exact hr.1,fun i p hp=>?_⟩
  have hi:=(List.getElem?_eq_some_iff.1 hp).1
  have hv:=hr.2 i (vs.getD i []) (by rw[List.getD_eq_getElem?_getD,List.getElem?_eq_getElem (by omega)]; rfl)
  have:=hM i hi
  rw[show xs.getD i z=p from by rw[List.getD_eq_getElem?_getD,hp]; rfl]at this
  rw[ownB]
  have e1:(inner.drop (i*d.sz)).take d.sz=vs.getD i []:=hv.1
  rw[e1]
  exact this
theorem Kd.R_at {α:Type}{d:Kd α}(z:α){e:Nat}{w:World}{base:Nat}{ok:Nat→Prop}{A:Option Addr}{n c:Nat}{xs:List α}(h:d.R e w base ok (.slice A n c) xs){i:Int}(h0:0≤i)(h1:i<n):∃ ad cs,A=some ad∧d.M w base (fun k=>ok k∧some k≠A.map (·.block)) (xs.getD i.toNat z) cs∧CellsAt w (ad.add (i.toNat*d.sz)) cs:=by
  obtain⟨vs,hR,hl,hM⟩:=Kd.R_raw2 z h
  obtain⟨ad,cc,hA,hK,hc⟩:=Kd.atC (Kd.R_C hR) [] h0 h1
  have hn:=(Kd.R_len hR).1
  refine⟨ad,cc,hA,?_,hc⟩
  rw[show cc=vs.getD i.toNat []from hK.1]
  exact hM _ (by omega)
section
variable {P : Program} {N : Nat} {ops : Array Oper} {qs : QS} {rest : List Oper} {o : Oper} {l : Slots} {α : Type}
theorem XL_rowsetM (d:Kd α){w:World}{t:TypeId}{p x:Operand}(ho:o.op=.store t p x)(hdn:o.dst=none)(hg:gd ops l o=some true)(base e:Nat){A:Option Addr}{ad:Addr}{n c:Nat}{i:Int}{v:Value}(xs:List α)(x':α)
    (hv:evs l [p,x]=some [.pointer (some (ad.add (i.toNat*d.sz))),v]) (hA:A=some ad) (HO:d.R e w base (OkFrom base) (.slice A n c) xs) (h0:0≤i) (hi:i<n) (vs:List Value) (hvs:v.cells.toList=vs∧vs.length=d.sz)
    (ht:sizeP P t=some d.sz) (hM:d.M w base (fun k=>OkFrom base k∧some k≠A.map (·.block)) x' vs)
    (hn:∀ w1,d.R e w1 base (OkFrom base) (.slice A n c) (xs.set i.toNat x')→w.grownBy w1 (A.map (·.block))→(∀ k,A.map (·.block)=some k→base≤k)→XL P N ops rest qs l w1):XL P N ops (o::rest) qs l w:=by
  subst hA
  obtain⟨hvs,hvl⟩:=hvs
  obtain⟨h00,inner,hown,hr⟩:=HO
  have hlen:xs.length=n:=by
    rcases hown.2 with ⟨h,_⟩|⟨g,cap,cur,h,_⟩
    · cases h
    · injection h with _ h2 _
      exact h2.symm
  obtain⟨g,cap,he,_,_⟩:=hown.form (by omega)
  obtain rfl:ad=⟨g,0,none⟩:=by injection he with he; injection he
  have HO:d.R e w base (OkFrom base) (.slice (some ⟨g,0,none⟩) n c) xs:=⟨h00,inner,hown,hr⟩
  have hC:=(Kd.R_reads HO)
  obtain⟨A',c',e',_,hC⟩:=hC
  obtain⟨rfl,rfl,rfl⟩:some (⟨g,0,none⟩:Addr)=A'∧n=xs.length∧c=c':=by injection e' with a b c; exact⟨a,b,c⟩
  have hx:i.toNat<xs.length:=by omega
  obtain⟨ad2,cc,e2,hcl,_,hcc⟩:=Kd.C_get hC (xs[i.toNat]) i h0 hi
  obtain rfl:(⟨g,0,none⟩:Addr)=ad2:=by injection e2
  have hone:∀ q∈vs,q.oneCell'=true:=d.K_one (d.K_of_M hM)
  refine XL_law (by rw[hdn]; rfl) hg fun a ha=>?_
  have he:=evs_ok ha _ _ hv
  simp only[List.map_cons,List.map_nil,List.cons.injEq,and_true]at he
  have hadd:(⟨g,0,none⟩:Addr).add (i.toNat*d.sz)=⟨g,i.toNat*d.sz,none⟩:=by unfold Addr.add; split<;>simp_all
  refine Kd.R_store (o:={ o with guard:=none }) d (w0:=w) base hdn rfl t p x ho e (g:=g) (n:=xs.length) (cap:=c) (o':=i.toNat*d.sz) i 0 xs x' v vs cc (OkFrom base) (fun k=>OkFrom base k∧some k≠(some (⟨g,0,none⟩:Addr)).map (·.block)) (by rw[he.1,hadd]) (by simp) he.2 hvs (by rw[hvl]; exact ht) hone HO h0 hi hcl
    (fun j u hu=>by
      have:=hcc j u hu
      have ha2:(⟨g,0,none⟩:Addr).add (i.toNat*d.sz+j)=⟨g,i.toNat*d.sz+j,none⟩:=by unfold Addr.add; split<;>simp_all
      rwa [ha2]at this) (by omega) (by
      have:cc.drop (0+vs.length)=[]:=List.drop_of_length_le (by omega)
      rw[this]; simpa using hM) (fun k h=>⟨h.1,fun e1=>h.2 (by subst e1; rfl)⟩) (Below.mono (Below.refl w.heap.size w) (by
      have:=HO.1 g rfl
      rcases hown.2 with ⟨h,_⟩|⟨g',cap',cur,h,hb,hh,_⟩
      · cases h
      · have:g'<w.heap.size:=(Array.getElem?_eq_some_iff.1 hh).1
        omega)) ?_
  intro w1 hR hB hgr
  exact hn w1 hR hgr (fun k hk=>by have:=HO.1 k (by rw[ownB]; exact hk); exact this) a ha
theorem XL_appendRow (d:Kd α)(z0:α){W:World}{s x:Operand}{t:TypeId}(ho:o.op=.call { callee:=.builtin .append,args:=#[s,x],argTypes:=#[t,t] })(hg:gd ops l o=some true)(hd:okD N o.dst=true)(base e:Nat)(z:Value)(bytes:Nat)
    (ht:P.underlying t=some (.slice e)) (hinfo:(P.info? e).map (fun i=>(i.zero,i.size,i.bytes))=some (some z,d.sz,bytes)) (hz:z.cells.size=d.sz) (hs0:0<d.sz) (hb0:0<bytes) (hE:d.E.contains e=false)
    {A A':Option Addr} {n c m c':Nat} (xs ys:List α) (hv:evs l [s,x]=some [.slice A n c,.slice A' m c'])
    (HO:d.R e W base (OkFrom base) (.slice A n c) xs) (HY:d.R e W base (OkFrom base) (.slice A' m c') ys) (hbase:base≤W.heap.size) (hl:(xs.length+m)*bytes≤140737488355328)
    (hn:∀ A1 c1 w1,d.R e w1 base (OkFrom base) (.slice A1 (xs++ys).length c1) (xs++ys)→(xs++ys).length≤c1→W.grownBy w1 (A.map (·.block))→(∀ k,A.map (·.block)=some k→base≤k)→(A1.map (·.block)=A.map (·.block)∨∃ b,A1.map (·.block)=some b∧W.heap.size≤b)→XL P N ops rest qs (putS l o.dst (.slice A1 (xs++ys).length c1)) w1):XL P N ops (o::rest) qs l W:=by
  obtain⟨vs,hR,hlv,hM⟩:=Kd.R_raw2 z0 HO
  obtain⟨vs2,hR2,hlv2,hM2⟩:=Kd.R_raw2 z0 HY
  refine XL_appendAll (kRaw d.sz) ho hg hd base e z bytes ht hinfo hz hs0 hb0 vs vs2 hv hR (Kd.R_C hR2) (fun _ _ h=>h) hbase (by rw[hlv]; exact hl) ?_
  intro A1 c1 w1 hr hc hgr hle hat
  have hlen:(vs++vs2).length=(xs++ys).length:=by simp[hlv,hlv2]
  rw[hlen]at hr hc ⊢
  have key:∀ (A2:Option Addr) (x':α) (cs:List Value),(∀ k,A2.map (·.block)=some k→∃ cells,W.heap[k]?=some (.cells cells e (0,0)))→d.M W base (fun k=>OkFrom base k∧some k≠A2.map (·.block)) x' cs→d.M w1 base (fun k=>OkFrom base k∧some k≠A1.map (·.block)) x' cs:=by
    intro A2 x' cs _ h
    have hb:=d.M_bound h
    have hA:∀ k,A.map (·.block)=some k→∃ cells,W.heap[k]?=some (.cells cells e (0,0)):=fun k hk=>by
      obtain⟨_,inner,hown,_⟩:=hR
      exact own_typed hown k (by rw[ownB]; exact hk)
    have hne:∀ k,(∃ q,q∈d.E∧∃ cells,W.heap[k]?=some (.cells cells q (0,0)))→A.map (·.block)≠some k:=by
      rintro k ⟨q,hq,cells,hc1⟩ hk
      obtain⟨cells2,hc2⟩:=hA k hk
      rw[hc2]at hc1
      injection hc1 with hc1
      injection hc1 with _ e2
      subst e2
      have:d.E.contains e=true:=by simpa using hq
      rw[hE]at this
      cases this
    refine d.M_mono ?_ (Kd.M_grown hb hgr fun k hk e1=>hne k hk.2.2.2 e1.symm)
    intro k hk
    refine⟨hk.1.1,fun e1=>?_⟩
    rcases hat with e2|⟨b,e2,hb2⟩
    · exact hne k hk.2.2.2 (by rw[←e2,←e1])
    · rw[e2]at e1
      injection e1 with e1
      have:=hk.2.2.1
      omega
  have typed:∀ {A2:Option Addr} {n2 c2:Nat} {us:List (List Value)},(kRaw d.sz).R e W base (OkFrom base) (.slice A2 n2 c2) us→∀ k,A2.map (·.block)=some k→∃ cells,W.heap[k]?=some (.cells cells e (0,0)):=fun h k hk=>by
    obtain⟨_,inner,hown,_⟩:=h
    exact own_typed hown k (by rw[ownB]; exact hk)
  refine hn A1 c1 w1 (Kd.R_ofRaw z0 hr hlen fun i hi=>?_) hc hgr hle hat
  rw[List.getD_eq_getElem?_getD,List.getD_eq_getElem?_getD]
  by_cases hx:i<xs.length
  · rw[List.getElem?_append_left hx,List.getElem?_append_left (by omega),←List.getD_eq_getElem?_getD,←List.getD_eq_getElem?_getD]
    exact key A _ _ (typed hR) (hM i hx)
  · rw[List.getElem?_append_right (by omega),List.getElem?_append_right (by omega),hlv,←List.getD_eq_getElem?_getD,←List.getD_eq_getElem?_getD]
    rw[List.length_append]at hi
    exact key A' _ _ (typed hR2) (hM2 _ (by omega))
end

structure Two (g:Nat) (r:Option Nat) (w w':World):Prop where
  os:w'.os=w.os
  tape:w'.tape=w.tape
  output:w'.output=w.output
  size:w.heap.size≤w'.heap.size
  block:∀ k,k<w.heap.size→k≠g→r≠some k→w'.heap[k]?=w.heap[k]?
theorem Two.refl (g:Nat)(r:Option Nat)(w:World):Two g r w w:=⟨rfl,rfl,rfl,Nat.le_refl _,fun _ _ _ _=>rfl⟩
theorem Two.below {g:Nat}{r:Option Nat}{a b c:World}(h:Two g r a b)(k:Below b.heap.size b c):Two g r a c:=
  ⟨k.os.trans h.os,k.tape.trans h.tape,k.output.trans h.output,Nat.le_trans h.size k.size,fun x hx h1 h2=>(k.block x (Nat.lt_of_lt_of_le hx h.size)).trans (h.block x hx h1 h2)⟩
theorem Two.grown {g:Nat}{r s:Option Nat}{a b c:World}(h:Two g r a b)(k:b.grownBy c s)(hs:∀ x,s=some x→x=g∨r=some x∨a.heap.size≤x):Two g r a c:=
  ⟨k.os.trans h.os,k.tape.trans h.tape,k.output.trans h.output,Nat.le_trans h.size k.size,fun x hx h1 h2=>(k.block x (Nat.lt_of_lt_of_le hx h.size) (fun e=>by
    rcases hs x e.symm with h3|h3|h3
    · exact h1 h3
    · exact h2 h3
    · omega)).trans (h.block x hx h1 h2)⟩
theorem Two.store {g:Nat}{r:Option Nat}{a b c:World}(h:Two g r a b)(k:b.grownBy c (some g)):Two g r a c:=h.grown k fun x e=>.inl (by injection e with e; exact e.symm)
theorem Two.row {g:Nat}{r:Option Nat}{a b c:World}(h:Two g r a b){A:Option Addr}(k:b.grownBy c (A.map (·.block)))(hA:A.map (·.block)=r∨∃ b,A.map (·.block)=some b∧a.heap.size≤b):Two g r a c:=h.grown k fun x e=>by
  rcases hA with h1|⟨b,h1,h2⟩
  · exact .inr (.inl (by rw[←h1,e]))
  · rw[h1]at e; injection e with e; subst e; exact .inr (.inr h2)
theorem Two.toGrown {g:Nat}{w w':World}(h:Two g none w w'):w.grownBy w' (some g):=⟨h.os,h.tape,h.output,h.size,fun k hk hne=>h.block k hk (fun e=>hne (by rw[e])) (fun e=>by cases e)⟩
theorem Two.belowB {g B:Nat}{r:Option Nat}{a b:World}(h:Two g r a b)(hg:B≤g)(hr:∀ x,r=some x→B≤x)(hB:B≤a.heap.size):Below B a b:=
  ⟨h.os,h.tape,h.output,h.size,fun k hk=>h.block k (by omega) (by omega) (fun e=>by have:=hr k e; omega)⟩
theorem Kd.R_blk_ne {α:Type}{d:Kd α}{e g t:Nat}{w:World}{base:Nat}{ok:Nat→Prop}{A:Option Addr}{n c:Nat}{xs:List α}{cs:Array Value}(h:d.R e w base ok (.slice A n c) xs)(hb:Blk w g t cs)(hne:Nat.beq t e=false):∀ k,A.map (·.block)=some k→k≠g:=fun k hk e1=>by
  subst e1
  obtain⟨_,inner,hown,_⟩:=h
  obtain⟨cells,hc⟩:=own_typed hown k (by rw[ownB]; exact hk)
  rw[show w.heap[k]?=some (.cells cs t (0,0))from hb]at hc
  injection hc with hc
  injection hc with _ e2
  subst e2
  rw[Nat.beq_refl]at hne
  cases hne
theorem Blk.tne {w:World}{g g' t t':Nat}{cs cs':Array Value}(h:Blk w g t cs)(h':Blk w g' t' cs')(hne:Nat.beq t t'=false):g≠g':=fun e=>by
  subst e
  have h':w.heap[g]?=some (.cells cs' t' (0,0)):=h'
  rw[show w.heap[g]?=some (.cells cs t (0,0))from h]at h'
  injection h' with h'
  injection h' with _ e2
  subst e2
  rw[Nat.beq_refl]at hne
  cases hne
theorem atc_new {A A1 A2:Option Addr}{w w1:World}(hw:w.heap.size≤w1.heap.size)(h:A1.map (·.block)=A.map (·.block)∨∃ b,A1.map (·.block)=some b∧w.heap.size≤b)(h2:A2.map (·.block)=A1.map (·.block)∨∃ b,A2.map (·.block)=some b∧w1.heap.size≤b):A2.map (·.block)=A.map (·.block)∨∃ b,A2.map (·.block)=some b∧w.heap.size≤b:=by
  rcases h2 with h2|⟨b,h2,h3⟩
  · rw[h2]; exact h
  · exact .inr ⟨b,h2,by omega⟩
end Go.Proofs.YtlnnjfdonilgmaaGreatDoor.RX
set_option linter.unusedVariables false
set_option linter.unusedSimpArgs false
namespace Go.Proofs.YtlnnjfdonilgmaaGreatDoor.RX
open Go Go.RowKit Go.Proofs.YtlnnjfdonilgmaaGreatDoorW.PrintWords
section
variable {P : Program} {N : Nat} {ops : Array Oper} {qs : QS} {rest : List Oper} {o : Oper} {l : Slots} {α : Type}
theorem XL_makeCap (d:Kd α){w:World}{t:TypeId}{x y:Operand}(ho:o.op=.makeSlice t x y)(hg:gd ops l o=some true)(hd:okD N o.dst=true)(e:Nat)(z:Value)(bytes:Nat)(m:Int)
    (hv:evs l [x,y]=some [.int .i64 0,.int .i64 m]) (ht:P.underlying t=some (.slice e)) (hinfo:(P.info? e).map (fun i=>(i.zero,i.size,i.bytes))=some (some z,d.sz,bytes)) (hz:z.cells.size=d.sz) (hs0:0<d.sz) (hb0:0<bytes)
    (z0:α) (hzero:d.M w w.heap.size (fun _=>False) z0 z.cells.toList) (h0:0≤m) (hl:m.toNat*bytes≤281474976710656)
    (hn:∀ A c w1,d.R e w1 w.heap.size (OkFrom w.heap.size) (.slice A 0 c) []→m.toNat≤c→Below w.heap.size w w1→XL P N ops rest qs (putS l o.dst (.slice A 0 c)) w1):XL P N ops (o::rest) qs l w:=by
  obtain⟨m,rfl⟩:=Int.eq_ofNat_of_zero_le h0
  simp only[Int.toNat_natCast]at hl hn
  obtain⟨i0,hi,hzz⟩:=Option.map_eq_some_iff.1 hinfo
  simp only[Prod.mk.injEq]at hzz
  obtain⟨hz0,hz1,hz2⟩:=hzz
  have hm:m≤281474976710656:=Nat.le_trans (Nat.le_mul_of_pos_right _ hb0) hl
  have hr:=run_make (P:=P) w t e i0 z ht hi hz0 .i64 .i64 0 (m:Int) (by omega) (by omega)
    (by
      have h3:((i0.bytes*m:Nat):Int)≤281474976710656:=by rw[hz2,Nat.mul_comm]; omega
      rwa [Int.natCast_mul]at h3) (by omega)
  simp only[Int.toNat_natCast,Int.toNat_zero]at hr
  rw[hz1]at hr
  obtain⟨w1,hw,hb,hk,hs⟩:=new_world w (madeCells z.cells (m*d.sz)) e
  rw[hw]at hr
  have hR:d.R e w1 w.heap.size (OkFrom w.heap.size) (.slice (some ⟨w.heap.size,0,none⟩) (List.replicate m z0).length (List.replicate m z0).length) (List.replicate m z0):=
    Kd.R_litB d _ hk (Kd.reps_made hz hs0 (Kd.M_below hzero hb) m) (by rw[List.length_replicate]; omega)
  rw[List.length_replicate]at hR
  have hR0:=Kd.R_take hR (Nat.zero_le m)
  rw[List.take_zero]at hR0
  refine XL_val hg hd (fun a ha=>?_) (hn _ m w1 hR0 (Nat.le_refl _) hb)
  have he:=evs_ok ha _ _ hv
  simp only[List.map_cons,List.map_nil,List.cons.injEq,and_true]at he
  simp[execOp,ho,he.1,he.2,hr]
end
end Go.Proofs.YtlnnjfdonilgmaaGreatDoor.RX
namespace Go.Proofs.YtlnnjfdonilgmaaGreatDoor
open Go Go.RowKit Go.Proofs.YtlnnjfdonilgmaaGreatDoorW.PrintWords RX
theorem kPiece_insM {w:World}{base:Nat}{ok:Nat→Prop}{a:List At}{t:ByteArray}{n:Int}{cs:List Value}(h:kPiece.M w base ok (.ins a t n) cs):∃ A c,cs=[.iface 153 (.agg #[.slice A a.length c,.string t,.int .i64 n])]∧a.length≤c∧kAttr.R 148 w base ok (.slice A a.length c) a:=by
  obtain⟨_,⟨_,_,rfl,⟨v,rfl,hR⟩,_,_,rfl,rfl,rfl⟩,rfl⟩:=h
  obtain⟨A,c,rfl,hl,_⟩:=Kd.R_reads hR
  exact⟨A,c,rfl,hl,hR⟩
theorem kPiece_embM {w:World}{base:Nat}{ok:Nat→Prop}{a:List At}{k:ByteArray}{v:Int×Int×ByteArray}{cs:List Value}(h:kPiece.M w base ok (.emb a k v) cs):∃ A c,cs=[.iface 157 (.agg #[.slice A a.length c,.string k,valV v])]∧a.length≤c∧kAttr.R 148 w base ok (.slice A a.length c) a:=by
  obtain⟨_,⟨_,_,rfl,⟨v,rfl,hR⟩,_,_,rfl,rfl,rfl⟩,rfl⟩:=h
  obtain⟨A,c,rfl,hl,_⟩:=Kd.R_reads hR
  exact⟨A,c,rfl,hl,hR⟩
theorem kPiece_retM {w:World}{base:Nat}{ok:Nat→Prop}{a:List At}{n:Int}{cs:List Value}(h:kPiece.M w base ok (.ret a n) cs):∃ A c,cs=[.iface 131 (.agg #[.slice A a.length c,.int .i64 n])]∧a.length≤c∧kAttr.R 148 w base ok (.slice A a.length c) a:=by
  obtain⟨_,⟨_,_,rfl,⟨v,rfl,hR⟩,rfl⟩,rfl⟩:=h
  obtain⟨A,c,rfl,hl,_⟩:=Kd.R_reads hR
  exact⟨A,c,rfl,hl,hR⟩
end Go.Proofs.YtlnnjfdonilgmaaGreatDoor
