import Derived.Test.YtlnnjfdonilgmaaGreatDoorMk
import Derived.Test.YtlnnjfdonilgmaaGreatDoorChg
/- Rows whose memory lies in any set of blocks that holds all new ones. No condition. -/
set_option linter.unusedVariables false
set_option linter.unusedSimpArgs false
namespace Go.Proofs.YtlnnjfdonilgmaaGreatDoor.RX
open Go Go.RowKit Go.Proofs.YtlnnjfdonilgmaaGreatDoorW.PrintWords
theorem Kd.M_apartO {α β:Type}{d:Kd α}{d':Kd β}{e':Nat}{w:World}{base base':Nat}{x:α}{cs:List Value}{A:Option Addr}{n c:Nat}{ys:List β}{okm ok:Nat→Prop}(h:d.M w base okm x cs)(hs:∀ k,okm k→ok k)(hb:base'≤base)
    (h':d'.R e' w base' ok (.slice A n c) ys) (hne:d.E.contains e'=false):∃ okp,d.M w base' okp x cs∧∀ k,okp k→ok k∧some k≠A.map (·.block):=by
  cases A with
  | none=>exact⟨okm,d.M_lower hb h,fun k hk=>⟨hs k hk,by simp⟩⟩
  | some ad=>
    obtain⟨inner,ho⟩:=Kd.R_own h'
    obtain⟨cells,hbl⟩:=own_typed ho ad.block rfl
    refine⟨_,d.M_lower hb (d.M_bound h),fun k hk=>⟨hs k hk.1,fun e=>?_⟩⟩
    obtain⟨_,_,_,q,hq,cs',hc⟩:=hk
    obtain rfl:k=ad.block:=by simpa using e
    rw[hbl]at hc
    injection hc with hc
    injection hc with _ hq' _
    subst hq'
    rw[List.contains_iff_mem.2 hq]at hne
    cases hne
section
variable {P : Program} {N : Nat} {ops : Array Oper} {qs : QS} {rest : List Oper} {o : Oper} {l : Slots} {α : Type}
theorem XL_appendO (d:Kd α){W:World}{s x:Operand}{t:TypeId}(ho:o.op=.call { callee:=.builtin .append,args:=#[s,x],argTypes:=#[t,t] })(hg:gd ops l o=some true)(hd:okD N o.dst=true)(base e:Nat)(z:Value)(bytes:Nat)
    (ht:P.underlying t=some (.slice e)) (hinfo:(P.info? e).map (fun i=>(i.zero,i.size,i.bytes))=some (some z,d.sz,bytes)) (hz:z.cells.size=d.sz) (hs0:0<d.sz) (hb0:0<bytes)
    {A:Option Addr} {n c:Nat} {ok:Nat→Prop} (xs:List α) (p:α) (cs:List Value) (okp:Nat→Prop) (hv:evs l [s,x]=some [.slice A n c,.slice (some ⟨W.heap.size,0,none⟩) 1 1]) (hp:d.M W base okp p cs) (hokp:∀ k,okp k→ok k∧some k≠A.map (·.block))
    (HO:d.R e W base ok (.slice A n c) xs) (hok:∀ k,W.heap.size≤k→ok k) (hbase:base≤W.heap.size) (hl:(xs.length+1)*bytes≤140737488355328)
    (hn:∀ A1 c1 w1,d.R e w1 base ok (.slice A1 (xs++[p]).length c1) (xs++[p])→(xs++[p]).length≤c1→W.grownBy w1 (A.map (·.block))→(∀ k,A.map (·.block)=some k→base≤k)→(A1.map (·.block)=A.map (·.block)∨∃ b,A1.map (·.block)=some b∧W.heap.size≤b)→
      XL P N ops rest qs (putS l o.dst (.slice A1 (xs++[p]).length c1)) w1):XL P N ops (o::rest) qs l (W.alloc (.cells cs.toArray e)):=by
  refine XL_law hd hg fun a ha=>?_
  have he:=evs_ok ha _ _ hv
  simp only[List.map_cons,List.map_nil,List.cons.injEq,and_true]at he
  refine Kd.R_append (o:={ o with guard:=none }) d (w0:=W) base rfl s x t e z bytes ho ht hinfo hz hs0 hb0 _ xs p cs ok okp he.1 he.2 hp (by rw[ownB]; exact hokp) hok HO (Below.refl _ _) hbase hl ?_
  intro v1 w1 hR hB hgr hat
  obtain⟨A1,c1,rfl,hc,_⟩:=Kd.R_reads hR
  rw[ownB]at hgr hat
  rw[ownB]at hat
  exact hn A1 c1 w1 hR hc hgr (Kd.R_ge HO) hat _ (ha.putS hd _)

theorem XL_appendAllO (d:Kd α){W:World}{s x:Operand}{t:TypeId}(ho:o.op=.call { callee:=.builtin .append,args:=#[s,x],argTypes:=#[t,t] })(hg:gd ops l o=some true)(hd:okD N o.dst=true)(base e:Nat)(z:Value)(bytes:Nat)
    (ht:P.underlying t=some (.slice e)) (hinfo:(P.info? e).map (fun i=>(i.zero,i.size,i.bytes))=some (some z,d.sz,bytes)) (hz:z.cells.size=d.sz) (hs0:0<d.sz) (hb0:0<bytes)
    {A A':Option Addr} {n c m c':Nat} {ok:Nat→Prop} (xs ys:List α) (hv:evs l [s,x]=some [.slice A n c,.slice A' m c'])
    (HO:d.R e W base ok (.slice A n c) xs) (HC:d.C W A' m ys) (hKM:∀ x cs,d.K W x cs→d.M W base (fun _=>False) x cs) (hok:∀ k,W.heap.size≤k→ok k) (hbase:base≤W.heap.size) (hl:(xs.length+m)*bytes≤140737488355328)
    (hn:∀ A1 c1 w1,d.R e w1 base ok (.slice A1 (xs++ys).length c1) (xs++ys)→(xs++ys).length≤c1→W.grownBy w1 (A.map (·.block))→(∀ k,A.map (·.block)=some k→base≤k)→(A1.map (·.block)=A.map (·.block)∨∃ b,A1.map (·.block)=some b∧W.heap.size≤b)→
      XL P N ops rest qs (putS l o.dst (.slice A1 (xs++ys).length c1)) w1):XL P N ops (o::rest) qs l W:=by
  refine XL_law hd hg fun a ha=>?_
  have he:=evs_ok ha _ _ hv
  simp only[List.map_cons,List.map_nil,List.cons.injEq,and_true]at he
  refine Kd.R_append_rows (o:={ o with guard:=none }) d (w0:=W) base rfl s x t e z bytes ho ht hinfo hz hs0 hb0 _ xs ys A' m c' ok (fun _=>False) he.1 he.2 HO HC hKM (fun _ h=>h.elim) hok (Below.refl _ _) hbase hl ?_
  intro v1 w1 hR hB hgr hat
  obtain⟨A1,c1,rfl,hc,_⟩:=Kd.R_reads hR
  rw[ownB]at hgr hat
  rw[ownB]at hat
  exact hn A1 c1 w1 hR hc hgr (Kd.R_ge HO) hat _ (ha.putS hd _)

theorem XL_rowsetMO (d:Kd α){w:World}{t:TypeId}{p x:Operand}(ho:o.op=.store t p x)(hdn:o.dst=none)(hg:gd ops l o=some true)(base e:Nat){A:Option Addr}{ad:Addr}{n c:Nat}{i:Int}{v:Value}{ok:Nat→Prop}(xs:List α)(x':α)
    (hv:evs l [p,x]=some [.pointer (some (ad.add (i.toNat*d.sz))),v]) (hA:A=some ad) (HO:d.R e w base ok (.slice A n c) xs) (h0:0≤i) (hi:i<n) (vs:List Value) (hvs:v.cells.toList=vs∧vs.length=d.sz)
    (ht:sizeP P t=some d.sz) (hM:d.M w base (fun k=>ok k∧some k≠A.map (·.block)) x' vs)
    (hn:∀ w1,d.R e w1 base ok (.slice A n c) (xs.set i.toNat x')→w.grownBy w1 (A.map (·.block))→(∀ k,A.map (·.block)=some k→base≤k)→XL P N ops rest qs l w1):XL P N ops (o::rest) qs l w:=by
  subst hA
  obtain⟨hvs,hvl⟩:=hvs
  obtain⟨h00,inner,hown,hr⟩:=HO
  have hlen:xs.length=n:=by
    rcases hown.2 with ⟨h,_⟩|⟨g,cap,cur,h,_⟩
    · cases h
    · injection h with _ h2 _
      exact h2.symm
  obtain⟨g,cap,he,_,_⟩:=hown.form (by omega)
  obtain rfl:ad=⟨g,0,none⟩:=by injection he with he; injection he
  have HO:d.R e w base ok (.slice (some ⟨g,0,none⟩) n c) xs:=⟨h00,inner,hown,hr⟩
  have hC:=(Kd.R_reads HO)
  obtain⟨A',c',e',_,hC⟩:=hC
  obtain⟨rfl,rfl,rfl⟩:some (⟨g,0,none⟩:Addr)=A'∧n=xs.length∧c=c':=by injection e' with a b c; exact⟨a,b,c⟩
  have hx:i.toNat<xs.length:=by omega
  obtain⟨ad2,cc,e2,hcl,_,hcc⟩:=Kd.C_get hC (xs[i.toNat]) i h0 hi
  obtain rfl:(⟨g,0,none⟩:Addr)=ad2:=by injection e2
  have hone:∀ q∈vs,q.oneCell'=true:=d.K_one (d.K_of_M hM)
  refine XL_law (by rw[hdn]; rfl) hg fun a ha=>?_
  have he:=evs_ok ha _ _ hv
  simp only[List.map_cons,List.map_nil,List.cons.injEq,and_true]at he
  have hadd:(⟨g,0,none⟩:Addr).add (i.toNat*d.sz)=⟨g,i.toNat*d.sz,none⟩:=by unfold Addr.add; split<;>simp_all
  refine Kd.R_store (o:={ o with guard:=none }) d (w0:=w) base hdn rfl t p x ho e (g:=g) (n:=xs.length) (cap:=c) (o':=i.toNat*d.sz) i 0 xs x' v vs cc ok (fun k=>ok k∧some k≠(some (⟨g,0,none⟩:Addr)).map (·.block)) (by rw[he.1,hadd]) (by simp) he.2 hvs (by rw[hvl]; exact ht) hone HO h0 hi hcl
    (fun j u hu=>by
      have:=hcc j u hu
      have ha2:(⟨g,0,none⟩:Addr).add (i.toNat*d.sz+j)=⟨g,i.toNat*d.sz+j,none⟩:=by unfold Addr.add; split<;>simp_all
      rwa [ha2]at this) (by omega) (by
      have:cc.drop (0+vs.length)=[]:=List.drop_of_length_le (by omega)
      rw[this]; simpa using hM) (fun k h=>⟨h.1,fun e1=>h.2 (by subst e1; rfl)⟩) (Below.mono (Below.refl w.heap.size w) (by
      have:=Kd.R_ge HO g rfl
      rcases hown.2 with ⟨h,_⟩|⟨g',cap',cur,h,hb,hh,_⟩
      · cases h
      · have:g'<w.heap.size:=(Array.getElem?_eq_some_iff.1 hh).1
        omega)) ?_
  intro w1 hR hB hgr
  exact hn w1 hR hgr (Kd.R_ge HO) a ha
theorem XL_appendRowO (d:Kd α)(z0:α){W:World}{s x:Operand}{t:TypeId}(ho:o.op=.call { callee:=.builtin .append,args:=#[s,x],argTypes:=#[t,t] })(hg:gd ops l o=some true)(hd:okD N o.dst=true)(base e:Nat)(z:Value)(bytes:Nat)
    (ht:P.underlying t=some (.slice e)) (hinfo:(P.info? e).map (fun i=>(i.zero,i.size,i.bytes))=some (some z,d.sz,bytes)) (hz:z.cells.size=d.sz) (hs0:0<d.sz) (hb0:0<bytes) (hE:d.E.contains e=false)
    {A A':Option Addr} {n c m c':Nat} {ok:Nat→Prop} (xs ys:List α) (hv:evs l [s,x]=some [.slice A n c,.slice A' m c'])
    (HO:d.R e W base ok (.slice A n c) xs) (HY:d.R e W base ok (.slice A' m c') ys) (hok:∀ k,W.heap.size≤k→ok k) (hbase:base≤W.heap.size) (hl:(xs.length+m)*bytes≤140737488355328)
    (hn:∀ A1 c1 w1,d.R e w1 base ok (.slice A1 (xs++ys).length c1) (xs++ys)→(xs++ys).length≤c1→W.grownBy w1 (A.map (·.block))→(∀ k,A.map (·.block)=some k→base≤k)→(A1.map (·.block)=A.map (·.block)∨∃ b,A1.map (·.block)=some b∧W.heap.size≤b)→XL P N ops rest qs (putS l o.dst (.slice A1 (xs++ys).length c1)) w1):XL P N ops (o::rest) qs l W:=by
  obtain⟨vs,hR,hlv,hM⟩:=Kd.R_raw2 z0 HO
  obtain⟨vs2,hR2,hlv2,hM2⟩:=Kd.R_raw2 z0 HY
  refine XL_appendAllO (kRaw d.sz) ho hg hd base e z bytes ht hinfo hz hs0 hb0 vs vs2 hv hR (Kd.R_C hR2) (fun _ _ h=>h) hok hbase (by rw[hlv]; exact hl) ?_
  intro A1 c1 w1 hr hc hgr hle hat
  have hlen:(vs++vs2).length=(xs++ys).length:=by simp[hlv,hlv2]
  rw[hlen]at hr hc ⊢
  have key:∀ (A2:Option Addr) (x':α) (cs:List Value),(∀ k,A2.map (·.block)=some k→∃ cells,W.heap[k]?=some (.cells cells e (0,0)))→d.M W base (fun k=>ok k∧some k≠A2.map (·.block)) x' cs→d.M w1 base (fun k=>ok k∧some k≠A1.map (·.block)) x' cs:=by
    intro A2 x' cs _ h
    have hb:=d.M_bound h
    have hA:∀ k,A.map (·.block)=some k→∃ cells,W.heap[k]?=some (.cells cells e (0,0)):=fun k hk=>by
      obtain⟨_,inner,hown,_⟩:=hR
      exact own_typed hown k (by rw[ownB]; exact hk)
    have hne:∀ k,(∃ q,q∈d.E∧∃ cells,W.heap[k]?=some (.cells cells q (0,0)))→A.map (·.block)≠some k:=by
      rintro k ⟨q,hq,cells,hc1⟩ hk
      obtain⟨cells2,hc2⟩:=hA k hk
      rw[hc2]at hc1
      injection hc1 with hc1
      injection hc1 with _ e2
      subst e2
      have:d.E.contains e=true:=by simpa using hq
      rw[hE]at this
      cases this
    refine d.M_mono ?_ (Kd.M_grown hb hgr fun k hk e1=>hne k hk.2.2.2 e1.symm)
    intro k hk
    refine⟨hk.1.1,fun e1=>?_⟩
    rcases hat with e2|⟨b,e2,hb2⟩
    · exact hne k hk.2.2.2 (by rw[←e2,←e1])
    · rw[e2]at e1
      injection e1 with e1
      have:=hk.2.2.1
      omega
  have typed:∀ {A2:Option Addr} {n2 c2:Nat} {us:List (List Value)},(kRaw d.sz).R e W base ok (.slice A2 n2 c2) us→∀ k,A2.map (·.block)=some k→∃ cells,W.heap[k]?=some (.cells cells e (0,0)):=fun h k hk=>by
    obtain⟨_,inner,hown,_⟩:=h
    exact own_typed hown k (by rw[ownB]; exact hk)
  refine hn A1 c1 w1 (Kd.R_ofRaw z0 hr hlen fun i hi=>?_) hc hgr hle hat
  rw[List.getD_eq_getElem?_getD,List.getD_eq_getElem?_getD]
  by_cases hx:i<xs.length
  · rw[List.getElem?_append_left hx,List.getElem?_append_left (by omega),←List.getD_eq_getElem?_getD,←List.getD_eq_getElem?_getD]
    exact key A _ _ (typed hR) (hM i hx)
  · rw[List.getElem?_append_right (by omega),List.getElem?_append_right (by omega),hlv,←List.getD_eq_getElem?_getD,←List.getD_eq_getElem?_getD]
    rw[List.length_append]at hi
    exact key A' _ _ (typed hR2) (hM2 _ (by omega))
end
end Go.Proofs.YtlnnjfdonilgmaaGreatDoor.RX
