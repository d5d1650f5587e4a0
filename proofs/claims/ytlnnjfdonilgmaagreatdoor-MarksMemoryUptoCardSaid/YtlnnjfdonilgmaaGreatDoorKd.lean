/- Slices as the text-following wants them: read, made, appended to, written, cut. No condition. -/
import Derived.Test.YtlnnjfdonilgmaaGreatDoorRX
import Derived.Test.YtlnnjfdonilgmaaGreatDoorWWords
set_option linter.unusedVariables false
set_option linter.unusedSimpArgs false
namespace Go.Proofs.YtlnnjfdonilgmaaGreatDoor.RX
open Go Go.RowKit Go.Proofs.YtlnnjfdonilgmaaGreatDoorW.PrintWords

theorem max_eq (a b:Int):(if b>a then b else a)=max a b:=by omega
theorem min_eq (a b:Int):(if b<a then b else a)=min a b:=by omega
theorem ret_int {k:IntKind}{a b:Int}(h:a=b):Ending.returned (.int k a)=.returned (.int k b):=by rw[h]
theorem Kd.atC {α:Type}{d:Kd α}{w:World}{A:Option Addr}{n:Nat}{xs:List α}(h:d.C w A n xs)(z:α){i:Int}(h0:0≤i)(h1:i<n):∃ ad c,A=some ad∧d.K w (xs.getD i.toNat z) c∧CellsAt w (ad.add (i.toNat*d.sz)) c:=by
  obtain⟨ad,c,e,_,hK,hc⟩:=Kd.C_get h z i h0 h1
  exact⟨ad,c,e,hK,fun j u hu=>by rw[add_add]; exact hc j u hu⟩
theorem Kd.atI {k:IntKind}{w:World}{A:Option Addr}{n:Nat}{xs:List Int}(h:(Kd.int k).C w A n xs){i:Int}(h0:0≤i)(h1:i<n):∃ ad,A=some ad∧CellsAt w (ad.add (i.toNat*1)) [.int k (rd xs i)]:=by
  obtain⟨ad,c,e,hK,hc⟩:=Kd.atC h 0 h0 h1
  obtain rfl:c=[.int k (rd xs i)]:=hK
  exact⟨ad,e,hc⟩

theorem Kd.C_take {α:Type}{d:Kd α}{w:World}{A:Option Addr}{n m:Nat}{xs:List α}(h:d.C w A n xs)(hm:m≤n):d.C w A m (xs.take m):=by
  obtain⟨h1,h2,h3⟩:=h
  refine⟨by simp[h1,hm],by omega,fun h0=>?_⟩
  obtain⟨ad,e,hc⟩:=h3 (by omega)
  refine⟨ad,e,fun j p hj=>hc j p ?_⟩
  rw[List.getElem?_take]at hj
  split at hj
  · exact hj
  · cases hj
theorem Kd.C_drop {α:Type}{d:Kd α}{w:World}{A:Option Addr}{n k cap:Nat}{xs:List α}(h:d.C w A n xs)(hk:k≤n)(hc:n≤cap):
    d.C w (if cap=k then A else A.map (·.add (k*d.sz))) (n-k) (xs.drop k):=by
  obtain⟨h1,h2,h3⟩:=h
  refine⟨by simp[h1],by omega,fun h0=>?_⟩
  obtain⟨ad,rfl,hcell⟩:=h3 (by omega)
  rw[if_neg (by omega)]
  refine⟨ad.add (k*d.sz),rfl,fun j p hj=>?_⟩
  rw[List.getElem?_drop]at hj
  obtain⟨c,hc1,hc2,hc3⟩:=hcell (k+j) p hj
  refine⟨c,hc1,hc2,fun i u hu=>?_⟩
  rw[add_add,←hc3 i u hu,Nat.add_mul,Nat.add_assoc]

def OkFrom (B:Nat):Nat→Prop:=fun k=>B≤k
theorem Kd.R_C {α:Type}{d:Kd α}{e:Nat}{w:World}{base:Nat}{ok:Nat→Prop}{A:Option Addr}{n c:Nat}{xs:List α}(h:d.R e w base ok (.slice A n c) xs):d.C w A n xs:=by
  obtain⟨A',c',he,_,hC⟩:=Kd.R_reads h
  injection he with h1 h2 h3
  subst h1; subst h2
  exact hC
theorem Kd.R_len {α:Type}{d:Kd α}{e:Nat}{w:World}{base:Nat}{ok:Nat→Prop}{A:Option Addr}{n c:Nat}{xs:List α}(h:d.R e w base ok (.slice A n c) xs):n=xs.length∧n≤c:=by
  obtain⟨A',c',he,hl,_⟩:=Kd.R_reads h
  injection he with h1 h2 h3
  exact⟨h2,by omega⟩
theorem Kd.R_apart {α β:Type}{d:Kd α}{d':Kd β}{e e':Nat}{w w1:World}{base base':Nat}{ok ok':Nat→Prop}{v:Value}{A:Option Addr}{n c:Nat}{xs:List α}{ys:List β}(h:d.R e w base ok v xs)(h':d'.R e' w base' ok' (.slice A n c) ys)
    (hne:(e::d.E).contains e'=false) (hg:w.grownBy w1 (A.map (·.block))):d.R e w1 base ok v xs:=by
  cases A with
  | none=>exact Kd.R_grown h hg (fun k _=>by simp)
  | some ad=>
    obtain⟨inner,ho⟩:=Kd.R_own h'
    obtain⟨cells,hb⟩:=own_typed ho ad.block rfl
    have h2:=Kd.R_types h hb (fun q hq e=>by subst e; rw[List.contains_iff_mem.2 hq]at hne; cases hne)
    exact Kd.R_mono (Kd.R_grown h2 hg (fun k hk e=>by simp at e; exact hk.2 e)) (fun _ hk=>hk.1)
theorem Kd.M_rowApart {α β:Type}{d:Kd α}{d':Kd β}{e e':Nat}{w:World}{base base':Nat}{v:Value}{A:Option Addr}{n c:Nat}{xs:List α}{ys:List β}{ok':Nat→Prop}(h:d.R e w base (OkFrom base) v xs)(hb:base'≤base)
    (h':d'.R e' w base' ok' (.slice A n c) ys) (hne:(e::d.E).contains e'=false):∃ okp,(Kd.slice e d).M w base' okp xs [v]∧∀ k,okp k→OkFrom base' k∧some k≠A.map (·.block):=by
  cases A with
  | none=>exact⟨OkFrom base,Kd.M_row (Kd.R_lower h hb),fun k hk=>⟨Nat.le_trans hb hk,by simp⟩⟩
  | some ad=>
    obtain⟨inner,ho⟩:=Kd.R_own h'
    obtain⟨cells,hbl⟩:=own_typed ho ad.block rfl
    have h2:=Kd.R_types h hbl (fun q hq e=>by subst e; rw[List.contains_iff_mem.2 hq]at hne; cases hne)
    exact⟨_,Kd.M_row (Kd.R_lower h2 hb),fun k hk=>⟨Nat.le_trans hb hk.1,fun e=>by simp at e; exact hk.2 e⟩⟩
theorem Kd.R_low {α:Type}{d:Kd α}{e:Nat}{w:World}{base base':Nat}{v:Value}{xs:List α}(h:d.R e w base (OkFrom base) v xs)(hb:base'≤base):d.R e w base' (OkFrom base') v xs:=Kd.R_mono (Kd.R_lower h hb) (fun _ hk=>Nat.le_trans hb hk)
theorem bgo {a b c:World}{r:Option Nat}{base:Nat}(h:Below a.heap.size a b)(k:b.grownBy c r)(hle:∀ x,r=some x→base≤x)(hB:a.heap.size≤base):Below a.heap.size a c:=h.grown k h.size (fun x hx=>Nat.le_trans hB (hle x hx))

theorem reps_flatMap {α:Type}{R:α→List Value→Prop}{size:Nat}(enc:α→List Value)(h1:∀ x,(enc x).length=size)(h2:∀ x,R x (enc x)):∀ xs:List α,Reps R size xs (xs.flatMap enc)
  | []=>Reps.none _ _
  | x::xs=>by
    have hs:Reps R size [x] (enc x):=by
      have:=(Reps.none R size).snoc (h2 x) (h1 x)
      simpa using this
    have:=Kd.reps_append hs (reps_flatMap enc h1 h2 xs)
    simpa using this
theorem Kd.R_litB {α:Type}(d:Kd α){W w1:World}{e:Nat}{cs:Array Value}(xs:List α)(hk:w1.heap[W.heap.size]?=some (.cells cs e (0,0)))(hrep:Reps (d.M w1 W.heap.size (fun _=>False)) d.sz xs cs.toList)(hl:xs.length≤9223372036854775807):
    d.R e w1 W.heap.size (OkFrom W.heap.size) (.slice (some ⟨W.heap.size,0,none⟩) xs.length xs.length) xs:=by
  refine⟨fun k hk=>?_,cs.toList,⟨hrep.1,.inr ⟨W.heap.size,xs.length,cs,rfl,Nat.le_refl _,hk,Nat.le_refl _,by simpa [maxLen] using hl,by simpa using hrep.1,List.take_of_length_le (by rw[hrep.1]; exact Nat.le_refl _)⟩⟩,hrep.1,fun j p hj=>d.M_mono (fun _ h=>h.elim) (hrep.2 j p hj)⟩
  have:W.heap.size=k:=by simpa [Value.ownBlock] using hk
  subst this
  exact Nat.le_refl _
theorem repsInt {w:World}{base:Nat}{ok:Nat→Prop}{k:IntKind}(xs:List Int):Reps ((Kd.int k).M w base ok) 1 xs (xs.flatMap fun x=>[.int k x]):=reps_flatMap (R:=(Kd.int k).M w base ok) (size:=1) (fun x=>[.int k x]) (fun _=>rfl) (fun _=>rfl) xs
theorem ownB {A:Option Addr}{n c:Nat}:(Value.slice A n c).ownBlock=A.map (·.block):=by cases A<;>rfl

section
variable {P : Program} {N : Nat} {ops : Array Oper} {qs : QS} {rest : List Oper} {o : Oper} {l : Slots} {α : Type}

theorem XL_append (d:Kd α){W:World}{s x:Operand}{t:TypeId}(ho:o.op=.call { callee:=.builtin .append,args:=#[s,x],argTypes:=#[t,t] })(hg:gd ops l o=some true)(hd:okD N o.dst=true)(base e:Nat)(z:Value)(bytes:Nat)
    (ht:P.underlying t=some (.slice e)) (hinfo:(P.info? e).map (fun i=>(i.zero,i.size,i.bytes))=some (some z,d.sz,bytes)) (hz:z.cells.size=d.sz) (hs0:0<d.sz) (hb0:0<bytes)
    {A:Option Addr} {n c:Nat} (xs:List α) (p:α) (cs:List Value) (okp:Nat→Prop) (hv:evs l [s,x]=some [.slice A n c,.slice (some ⟨W.heap.size,0,none⟩) 1 1]) (hp:d.M W base okp p cs) (hokp:∀ k,okp k→OkFrom base k∧some k≠A.map (·.block))
    (HO:d.R e W base (OkFrom base) (.slice A n c) xs) (hbase:base≤W.heap.size) (hl:(xs.length+1)*bytes≤140737488355328)
    (hn:∀ A1 c1 w1,d.R e w1 base (OkFrom base) (.slice A1 (xs++[p]).length c1) (xs++[p])→(xs++[p]).length≤c1→W.grownBy w1 (A.map (·.block))→(∀ k,A.map (·.block)=some k→base≤k)→(A1.map (·.block)=A.map (·.block)∨∃ b,A1.map (·.block)=some b∧W.heap.size≤b)→
      XL P N ops rest qs (putS l o.dst (.slice A1 (xs++[p]).length c1)) w1):XL P N ops (o::rest) qs l (W.alloc (.cells cs.toArray e)):=by
  refine XL_law hd hg fun a ha=>?_
  have he:=evs_ok ha _ _ hv
  simp only[List.map_cons,List.map_nil,List.cons.injEq,and_true]at he
  refine Kd.R_append (o:={ o with guard:=none }) d (w0:=W) base rfl s x t e z bytes ho ht hinfo hz hs0 hb0 _ xs p cs (OkFrom base) okp he.1 he.2 hp (by rw[ownB]; exact hokp) (fun k hk=>Nat.le_trans hbase hk) HO (Below.refl _ _) hbase hl ?_
  intro v1 w1 hR hB hgr hat
  obtain⟨A1,c1,rfl,hc,_⟩:=Kd.R_reads hR
  rw[ownB]at hgr hat
  rw[ownB]at hat
  exact hn A1 c1 w1 hR hc hgr (fun k hk=>HO.1 k (by rw[ownB]; exact hk)) hat _ (ha.putS hd _)

theorem XL_appendAll (d:Kd α){W:World}{s x:Operand}{t:TypeId}(ho:o.op=.call { callee:=.builtin .append,args:=#[s,x],argTypes:=#[t,t] })(hg:gd ops l o=some true)(hd:okD N o.dst=true)(base e:Nat)(z:Value)(bytes:Nat)
    (ht:P.underlying t=some (.slice e)) (hinfo:(P.info? e).map (fun i=>(i.zero,i.size,i.bytes))=some (some z,d.sz,bytes)) (hz:z.cells.size=d.sz) (hs0:0<d.sz) (hb0:0<bytes)
    {A A':Option Addr} {n c m c':Nat} (xs ys:List α) (hv:evs l [s,x]=some [.slice A n c,.slice A' m c'])
    (HO:d.R e W base (OkFrom base) (.slice A n c) xs) (HC:d.C W A' m ys) (hKM:∀ x cs,d.K W x cs→d.M W base (fun _=>False) x cs) (hbase:base≤W.heap.size) (hl:(xs.length+m)*bytes≤140737488355328)
    (hn:∀ A1 c1 w1,d.R e w1 base (OkFrom base) (.slice A1 (xs++ys).length c1) (xs++ys)→(xs++ys).length≤c1→W.grownBy w1 (A.map (·.block))→(∀ k,A.map (·.block)=some k→base≤k)→(A1.map (·.block)=A.map (·.block)∨∃ b,A1.map (·.block)=some b∧W.heap.size≤b)→
      XL P N ops rest qs (putS l o.dst (.slice A1 (xs++ys).length c1)) w1):XL P N ops (o::rest) qs l W:=by
  refine XL_law hd hg fun a ha=>?_
  have he:=evs_ok ha _ _ hv
  simp only[List.map_cons,List.map_nil,List.cons.injEq,and_true]at he
  refine Kd.R_append_rows (o:={ o with guard:=none }) d (w0:=W) base rfl s x t e z bytes ho ht hinfo hz hs0 hb0 _ xs ys A' m c' (OkFrom base) (fun _=>False) he.1 he.2 HO HC hKM (fun _ h=>h.elim) (fun k hk=>Nat.le_trans hbase hk) (Below.refl _ _) hbase hl ?_
  intro v1 w1 hR hB hgr hat
  obtain⟨A1,c1,rfl,hc,_⟩:=Kd.R_reads hR
  rw[ownB]at hgr hat
  rw[ownB]at hat
  exact hn A1 c1 w1 hR hc hgr (fun k hk=>HO.1 k (by rw[ownB]; exact hk)) hat _ (ha.putS hd _)

theorem XL_rowset (d:Kd α){w:World}{t:TypeId}{p x:Operand}(ho:o.op=.store t p x)(hdn:o.dst=none)(hg:gd ops l o=some true)(base e:Nat){A:Option Addr}{ad:Addr}{n c:Nat}{i:Int}{v:Value}(xs:List α)(x':α)
    (hv:evs l [p,x]=some [.pointer (some (ad.add (i.toNat*d.sz))),v]) (hA:A=some ad) (HO:d.R e w base (OkFrom base) (.slice A n c) xs) (h0:0≤i) (hi:i<n) (vs:List Value) (hvs:v.cells.toList=vs∧vs.length=d.sz)
    (ht:sizeP P t=some d.sz) (hM:d.M w base (fun _=>False) x' vs)
    (hn:∀ w1,d.R e w1 base (OkFrom base) (.slice A n c) (xs.set i.toNat x')→w.grownBy w1 (A.map (·.block))→(∀ k,A.map (·.block)=some k→base≤k)→XL P N ops rest qs l w1):XL P N ops (o::rest) qs l w:=by
  subst hA
  obtain⟨hvs,hvl⟩:=hvs
  obtain⟨h00,inner,hown,hr⟩:=HO
  have hlen:xs.length=n:=by
    rcases hown.2 with ⟨h,_⟩|⟨g,cap,cur,h,_⟩
    · cases h
    · injection h with _ h2 _
      exact h2.symm
  obtain⟨g,cap,he,_,_⟩:=hown.form (by omega)
  obtain rfl:ad=⟨g,0,none⟩:=by injection he with he; injection he
  have HO:d.R e w base (OkFrom base) (.slice (some ⟨g,0,none⟩) n c) xs:=⟨h00,inner,hown,hr⟩
  have hC:=(Kd.R_reads HO)
  obtain⟨A',c',e',_,hC⟩:=hC
  obtain⟨rfl,rfl,rfl⟩:some (⟨g,0,none⟩:Addr)=A'∧n=xs.length∧c=c':=by injection e' with a b c; exact⟨a,b,c⟩
  have hx:i.toNat<xs.length:=by omega
  obtain⟨ad2,cc,e2,hcl,_,hcc⟩:=Kd.C_get hC (xs[i.toNat]) i h0 hi
  obtain rfl:(⟨g,0,none⟩:Addr)=ad2:=by injection e2
  have hone:∀ q∈vs,q.oneCell'=true:=d.K_one (d.K_of_M hM)
  refine XL_law (by rw[hdn]; rfl) hg fun a ha=>?_
  have he:=evs_ok ha _ _ hv
  simp only[List.map_cons,List.map_nil,List.cons.injEq,and_true]at he
  have hadd:(⟨g,0,none⟩:Addr).add (i.toNat*d.sz)=⟨g,i.toNat*d.sz,none⟩:=by unfold Addr.add; split<;>simp_all
  refine Kd.R_store (o:={ o with guard:=none }) d (w0:=w) base hdn rfl t p x ho e (g:=g) (n:=xs.length) (cap:=c) (o':=i.toNat*d.sz) i 0 xs x' v vs cc (OkFrom base) (fun _=>False) (by rw[he.1,hadd]) (by simp) he.2 hvs (by rw[hvl]; exact ht) hone HO h0 hi hcl
    (fun j u hu=>by
      have:=hcc j u hu
      have ha2:(⟨g,0,none⟩:Addr).add (i.toNat*d.sz+j)=⟨g,i.toNat*d.sz+j,none⟩:=by unfold Addr.add; split<;>simp_all
      rwa [ha2]at this) (by omega) (by
      have:cc.drop (0+vs.length)=[]:=List.drop_of_length_le (by omega)
      rw[this]; simpa using hM) (fun _ h=>h.elim) (Below.mono (Below.refl w.heap.size w) (by
      have:=HO.1 g rfl
      rcases hown.2 with ⟨h,_⟩|⟨g',cap',cur,h,hb,hh,_⟩
      · cases h
      · have:g'<w.heap.size:=(Array.getElem?_eq_some_iff.1 hh).1
        omega)) ?_
  intro w1 hR hB hgr
  exact hn w1 hR hgr (fun k hk=>by have:=HO.1 k (by rw[ownB]; exact hk); exact this) a ha
end
end Go.Proofs.YtlnnjfdonilgmaaGreatDoor.RX
