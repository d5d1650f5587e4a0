import Derived.Test.YtgphmfnkeolbcaaGreatDoorRX
import Derived.Test.YtgphmfnkeolbcaaGreatDoorWWords
/- Slices as the text-following wants them: read, made, appended to, written, cut. No condition. -/
set_option linter.unusedVariables false
set_option linter.unusedSimpArgs false
namespace Go.Proofs.YtgphmfnkeolbcaaGreatDoor.RX
open Go Go.RowKit Go.Proofs.YtgphmfnkeolbcaaGreatDoorW.PrintWords

theorem min_eq (a b:Int):(if b<a then b else a)=min a b:=by omega
theorem ret_int {k:IntKind}{a b:Int}(h:a=b):Ending.returned (.int k a)=.returned (.int k b):=by rw[h]
theorem Kd.atC {α:Type}{d:Kd α}{w:World}{A:Option Addr}{n:Nat}{xs:List α}(h:d.C w A n xs)(z:α){i:Int}(h0:0≤i)(h1:i<n):∃ ad c,A=some ad∧d.K w (xs.getD i.toNat z) c∧CellsAt w (ad.add (i.toNat*d.sz)) c:=by
  obtain⟨ad,c,e,_,hK,hc⟩:=Kd.C_get h z i h0 h1
  exact⟨ad,c,e,hK,fun j u hu=>by rw[add_add]; exact hc j u hu⟩
theorem Kd.atI {k:IntKind}{w:World}{A:Option Addr}{n:Nat}{xs:List Int}(h:(Kd.int k).C w A n xs){i:Int}(h0:0≤i)(h1:i<n):∃ ad,A=some ad∧CellsAt w (ad.add (i.toNat*1)) [.int k (rd xs i)]:=by
  obtain⟨ad,c,e,hK,hc⟩:=Kd.atC h 0 h0 h1
  obtain rfl:c=[.int k (rd xs i)]:=hK
  exact⟨ad,e,hc⟩

theorem Kd.C_take {α:Type}{d:Kd α}{w:World}{A:Option Addr}{n m:Nat}{xs:List α}(h:d.C w A n xs)(hm:m≤n):d.C w A m (xs.take m):=by
  obtain⟨h1,h2,h3⟩:=h
  refine⟨by simp[h1,hm],by omega,fun h0=>?_⟩
  obtain⟨ad,e,hc⟩:=h3 (by omega)
  refine⟨ad,e,fun j p hj=>hc j p ?_⟩
  rw[List.getElem?_take]at hj
  split at hj
  · exact hj
  · cases hj
theorem Kd.C_drop {α:Type}{d:Kd α}{w:World}{A:Option Addr}{n k cap:Nat}{xs:List α}(h:d.C w A n xs)(hk:k≤n)(hc:n≤cap):
    d.C w (if cap=k then A else A.map (·.add (k*d.sz))) (n-k) (xs.drop k):=by
  obtain⟨h1,h2,h3⟩:=h
  refine⟨by simp[h1],by omega,fun h0=>?_⟩
  obtain⟨ad,rfl,hcell⟩:=h3 (by omega)
  rw[if_neg (by omega)]
  refine⟨ad.add (k*d.sz),rfl,fun j p hj=>?_⟩
  rw[List.getElem?_drop]at hj
  obtain⟨c,hc1,hc2,hc3⟩:=hcell (k+j) p hj
  refine⟨c,hc1,hc2,fun i u hu=>?_⟩
  rw[add_add,←hc3 i u hu,Nat.add_mul,Nat.add_assoc]

def OkFrom (B:Nat):Nat→Prop:=fun k=>B≤k
theorem Kd.R_C {α:Type}{d:Kd α}{e:Nat}{w:World}{base:Nat}{ok:Nat→Prop}{A:Option Addr}{n c:Nat}{xs:List α}(h:d.R e w base ok (.slice A n c) xs):d.C w A n xs:=by
  obtain⟨A',c',he,_,hC⟩:=Kd.R_reads h
  injection he with h1 h2 h3
  subst h1; subst h2
  exact hC
theorem Kd.R_len {α:Type}{d:Kd α}{e:Nat}{w:World}{base:Nat}{ok:Nat→Prop}{A:Option Addr}{n c:Nat}{xs:List α}(h:d.R e w base ok (.slice A n c) xs):n=xs.length∧n≤c:=by
  obtain⟨A',c',he,hl,_⟩:=Kd.R_reads h
  injection he with h1 h2 h3
  exact⟨h2,by omega⟩
theorem Kd.R_apart {α β:Type}{d:Kd α}{d':Kd β}{e e':Nat}{w w1:World}{base base':Nat}{ok ok':Nat→Prop}{v:Value}{A:Option Addr}{n c:Nat}{xs:List α}{ys:List β}(h:d.R e w base ok v xs)(h':d'.R e' w base' ok' (.slice A n c) ys)
    (hne:(e::d.E).contains e'=false) (hg:w.grownBy w1 (A.map (·.block))):d.R e w1 base ok v xs:=by
  cases A with
  | none=>exact Kd.R_grown h hg (fun k _=>by simp)
  | some ad=>
    obtain⟨inner,ho⟩:=Kd.R_own h'
    obtain⟨cells,hb⟩:=own_typed ho ad.block rfl
    have h2:=Kd.R_types h hb (fun q hq e=>by subst e; rw[List.contains_iff_mem.2 hq]at hne; cases hne)
    exact Kd.R_mono (Kd.R_grown h2 hg (fun k hk e=>by simp at e; exact hk.2 e)) (fun _ hk=>hk.1)
theorem Kd.M_rowApart {α β:Type}{d:Kd α}{d':Kd β}{e e':Nat}{w:World}{base base':Nat}{v:Value}{A:Option Addr}{n c:Nat}{xs:List α}{ys:List β}{ok':Nat→Prop}(h:d.R e w base (OkFrom base) v xs)(hb:base'≤base)
    (h':d'.R e' w base' ok' (.slice A n c) ys) (hne:(e::d.E).contains e'=false):∃ okp,(Kd.slice e d).M w base' okp xs [v]∧∀ k,okp k→OkFrom base' k∧some k≠A.map (·.block):=by
  cases A with
  | none=>exact⟨OkFrom base,Kd.M_row (Kd.R_lower h hb),fun k hk=>⟨Nat.le_trans hb hk,by simp⟩⟩
  | some ad=>
    obtain⟨inner,ho⟩:=Kd.R_own h'
    obtain⟨cells,hbl⟩:=own_typed ho ad.block rfl
    have h2:=Kd.R_types h hbl (fun q hq e=>by subst e; rw[List.contains_iff_mem.2 hq]at hne; cases hne)
    exact⟨_,Kd.M_row (Kd.R_lower h2 hb),fun k hk=>⟨Nat.le_trans hb hk.1,fun e=>by simp at e; exact hk.2 e⟩⟩
theorem Kd.R_low {α:Type}{d:Kd α}{e:Nat}{w:World}{base base':Nat}{v:Value}{xs:List α}(h:d.R e w base (OkFrom base) v xs)(hb:base'≤base):d.R e w base' (OkFrom base') v xs:=Kd.R_mono (Kd.R_lower h hb) (fun _ hk=>Nat.le_trans hb hk)
theorem bgo {a b c:World}{r:Option Nat}{base:Nat}(h:Below a.heap.size a b)(k:b.grownBy c r)(hle:∀ x,r=some x→base≤x)(hB:a.heap.size≤base):Below a.heap.size a c:=h.grown k h.size (fun x hx=>Nat.le_trans hB (hle x hx))

theorem reps_flatMap {α:Type}{R:α→List Value→Prop}{size:Nat}(enc:α→List Value)(h1:∀ x,(enc x).length=size)(h2:∀ x,R x (enc x)):∀ xs:List α,Reps R size xs (xs.flatMap enc)
  | []=>Reps.none _ _
  | x::xs=>by
    have hs:Reps R size [x] (enc x):=by
      have:=(Reps.none R size).snoc (h2 x) (h1 x)
      simpa using this
    have:=Kd.reps_append hs (reps_flatMap enc h1 h2 xs)
    simpa using this
theorem Kd.R_litB {α:Type}(d:Kd α){W w1:World}{e:Nat}{cs:Array Value}(xs:List α)(hk:w1.heap[W.heap.size]?=some (.cells cs e (0,0)))(hrep:Reps (d.M w1 W.heap.size (fun _=>False)) d.sz xs cs.toList)(hl:xs.length≤9223372036854775807):
    d.R e w1 W.heap.size (OkFrom W.heap.size) (.slice (some ⟨W.heap.size,0,none⟩) xs.length xs.length) xs:=by
  refine⟨fun k hk=>?_,cs.toList,⟨hrep.1,.inr ⟨W.heap.size,xs.length,cs,rfl,Nat.le_refl _,hk,Nat.le_refl _,by simpa [maxLen] using hl,by simpa using hrep.1,List.take_of_length_le (by rw[hrep.1]; exact Nat.le_refl _)⟩⟩,hrep.1,fun j p hj=>d.M_mono (fun _ h=>h.elim) (hrep.2 j p hj)⟩
  have:W.heap.size=k:=by simpa [Value.ownBlock] using hk
  subst this
  exact Nat.le_refl _
theorem repsInt {w:World}{base:Nat}{ok:Nat→Prop}{k:IntKind}(xs:List Int):Reps ((Kd.int k).M w base ok) 1 xs (xs.flatMap fun x=>[.int k x]):=reps_flatMap (R:=(Kd.int k).M w base ok) (size:=1) (fun x=>[.int k x]) (fun _=>rfl) (fun _=>rfl) xs
theorem ownB {A:Option Addr}{n c:Nat}:(Value.slice A n c).ownBlock=A.map (·.block):=by cases A<;>rfl

section
variable {P : Program} {N : Nat} {ops : Array Oper} {qs : QS} {rest : List Oper} {o : Oper} {l : Slots} {α : Type}

theorem XL_append (d:Kd α){W:World}{s x:Operand}{t:TypeId}(ho:o.op=.call { callee:=.builtin .append,args:=#[s,x],argTypes:=#[t,t] })(hg:gd ops l o=some true)(hd:okD N o.dst=true)(base e:Nat)(z:Value)(bytes:Nat)
    (ht:P.underlying t=some (.slice e)) (hinfo:(P.info? e).map (fun i=>(i.zero,i.size,i.bytes))=some (some z,d.sz,bytes)) (hz:z.cells.size=d.sz) (hs0:0<d.sz) (hb0:0<bytes)
    {A:Option Addr} {n c:Nat} (xs:List α) (p:α) (cs:List Value) (okp:Nat→Prop) (hv:evs l [s,x]=some [.slice A n c,.slice (some ⟨W.heap.size,0,none⟩) 1 1]) (hp:d.M W base okp p cs) (hokp:∀ k,okp k→OkFrom base k∧some k≠A.map (·.block))
    (HO:d.R e W base (OkFrom base) (.slice A n c) xs) (hbase:base≤W.heap.size) (hl:(xs.length+1)*bytes≤140737488355328)
    (hn:∀ A1 c1 w1,d.R e w1 base (OkFrom base) (.slice A1 (xs++[p]).length c1) (xs++[p])→(xs++[p]).length≤c1→W.grownBy w1 (A.map (·.block))→(∀ k,A.map (·.block)=some k→base≤k)→(A1.map (·.block)=A.map (·.block)∨∃ b,A1.map (·.block)=some b∧W.heap.size≤b)→
      XL P N ops rest qs (putS l o.dst (.slice A1 (xs++[p]).length c1)) w1):XL P N ops (o::rest) qs l (W.alloc (.cells cs.toArray e)):=by
  refine XL_law hd hg fun a ha=>?_
  have he:=evs_ok ha _ _ hv
  simp only[List.map_cons,List.map_nil,List.cons.injEq,and_true]at he
  refine Kd.R_append (o:={ o with guard:=none }) d (w0:=W) base rfl s x t e z bytes ho ht hinfo hz hs0 hb0 _ xs p cs (OkFrom base) okp he.1 he.2 hp (by rw[ownB]; exact hokp) (fun k hk=>Nat.le_trans hbase hk) HO (Below.refl _ _) hbase hl ?_
  intro v1 w1 hR hB hgr hat
  obtain⟨A1,c1,rfl,hc,_⟩:=Kd.R_reads hR
  rw[ownB]at hgr hat
  rw[ownB]at hat
  exact hn A1 c1 w1 hR hc hgr (fun k hk=>HO.1 k (by rw[ownB]; exact hk)) hat _ (ha.putS hd _)

theorem XL_appendAll (d:Kd α){W:World}{s x:Operand}{t:TypeId}(ho:o.op=.call { callee:=.builtin .append,args:=#[s,x],argTypes:=#[t,t] })(hg:gd ops l o=some true)(hd:okD N o.dst=true)(base e:Nat)(z:Value)(bytes:Nat)
    (ht:P.underlying t=some (.slice e)) (hinfo:(P.info? e).map (fun i=>(i.zero,i.size,i.bytes))=some (some z,d.sz,bytes)) (hz:z.cells.size=d.sz) (hs0:0<d.sz) (hb0:0<bytes)
    {A A':Option Addr} {n c m c':Nat} (xs ys:List α) (hv:evs l [s,x]=some [.slice A n c,.slice A' m c'])
    (HO:d.R e W base (OkFrom base) (.slice A n c) xs) (HC:d.C W A' m ys) (hKM:∀ x cs,d.K W x cs→d.M W base (fun _=>False) x cs) (hbase:base≤W.heap.size) (hl:(xs.length+m)*bytes≤140737488355328)
    (hn:∀ A1 c1 w1,d.R e w1 base (OkFrom base) (.slice A1 (xs++ys).length c1) (xs++ys)→(xs++ys).length≤c1→W.grownBy w1 (A.map (·.block))→(∀ k,A.map (·.block)=some k→base≤k)→(A1.map (·.block)=A.map (·.block)∨∃ b,A1.map (·.block)=some b∧W.heap.size≤b)→
      XL P N ops rest qs (putS l o.dst (.slice A1 (xs++ys).length c1)) w1):XL P N ops (o::rest) qs l W:=by
  refine XL_law hd hg fun a ha=>?_
  have he:=evs_ok ha _ _ hv
  simp only[List.map_cons,List.map_nil,List.cons.injEq,and_true]at he
  refine Kd.R_append_rows (o:={ o with guard:=none }) d (w0:=W) base rfl s x t e z bytes ho ht hinfo hz hs0 hb0 _ xs ys A' m c' (OkFrom base) (fun _=>False) he.1 he.2 HO HC hKM (fun _ h=>h.elim) (fun k hk=>Nat.le_trans hbase hk) (Below.refl _ _) hbase hl ?_
  intro v1 w1 hR hB hgr hat
  obtain⟨A1,c1,rfl,hc,_⟩:=Kd.R_reads hR
  rw[ownB]at hgr hat
  rw[ownB]at hat
  exact hn A1 c1 w1 hR hc hgr (fun k hk=>HO.1 k (by rw[ownB]; exact hk)) hat _ (ha.putS hd _)

theorem XL_rowset (d:Kd α){w:World}{t:TypeId}{p x:Operand}(ho:o.op=.store t p x)(hdn:o.dst=none)(hg:gd ops l o=some true)(base e:Nat){A:Option Addr}{ad:Addr}{n c:Nat}{i:Int}{v:Value}(xs:List α)(x':α)
    (hv:evs l [p,x]=some [.pointer (some (ad.add (i.toNat*d.sz))),v]) (hA:A=some ad) (HO:d.R e w base (OkFrom base) (.slice A n c) xs) (h0:0≤i) (hi:i<n) (vs:List Value) (hvs:v.cells.toList=vs∧vs.length=d.sz)
    (ht:sizeP P t=some d.sz) (hM:d.M w base (fun _=>False) x' vs)
    (hn:∀ w1,d.R e w1 base (OkFrom base) (.slice A n c) (xs.set i.toNat x')→w.grownBy w1 (A.map (·.block))→(∀ k,A.map (·.block)=some k→base≤k)→XL P N ops rest qs l w1):XL P N ops (o::rest) qs l w:=by
  subst hA
  obtain⟨hvs,hvl⟩:=hvs
  obtain⟨h00,inner,hown,hr⟩:=HO
  have hlen:xs.length=n:=by
    rcases hown.2 with ⟨h,_⟩|⟨g,cap,cur,h,_⟩
    · cases h
    · injection h with _ h2 _
      exact h2.symm
  obtain⟨g,cap,he,_,_⟩:=hown.form (by omega)
  obtain rfl:ad=⟨g,0,none⟩:=by injection he with he; injection he
  have HO:d.R e w base (OkFrom base) (.slice (some ⟨g,0,none⟩) n c) xs:=⟨h00,inner,hown,hr⟩
  have hC:=(Kd.R_reads HO)
  obtain⟨A',c',e',_,hC⟩:=hC
  obtain⟨rfl,rfl,rfl⟩:some (⟨g,0,none⟩:Addr)=A'∧n=xs.length∧c=c':=by injection e' with a b c; exact⟨a,b,c⟩
  have hx:i.toNat<xs.length:=by omega
  obtain⟨ad2,cc,e2,hcl,_,hcc⟩:=Kd.C_get hC (xs[i.toNat]) i h0 hi
  obtain rfl:(⟨g,0,none⟩:Addr)=ad2:=by injection e2
  have hone:∀ q∈vs,q.oneCell'=true:=d.K_one (d.K_of_M hM)
  refine XL_law (by rw[hdn]; rfl) hg fun a ha=>?_
  have he:=evs_ok ha _ _ hv
  simp only[List.map_cons,List.map_nil,List.cons.injEq,and_true]at he
  have hadd:(⟨g,0,none⟩:Addr).add (i.toNat*d.sz)=⟨g,i.toNat*d.sz,none⟩:=by unfold Addr.add; split<;>simp_all
  refine Kd.R_store (o:={ o with guard:=none }) d (w0:=w) base hdn rfl t p x ho e (g:=g) (n:=xs.length) (cap:=c) (o':=i.toNat*d.sz) i 0 xs x' v vs cc (OkFrom base) (fun _=>False) (by rw[he.1,hadd]) (by simp) he.2 hvs (by rw[hvl]; exact ht) hone HO h0 hi hcl
    (fun j u hu=>by
      have:=hcc j u hu
      have ha2:(⟨g,0,none⟩:Addr).add (i.toNat*d.sz+j)=⟨g,i.toNat*d.sz+j,none⟩:=by unfold Addr.add; split<;>simp_all
      rwa [ha2]at this) (by omega) (by
      have:cc.drop (0+vs.length)=[]:=List.drop_of_length_le (by omega)
      rw[this]; simpa using hM) (fun _ h=>h.elim) (Below.mono (Below.refl w.heap.size w) (by
      have:=HO.1 g rfl
      rcases hown.2 with ⟨h,_⟩|⟨g',cap',cur,h,hb,hh,_⟩
      · cases h
      · have:g'<w.heap.size:=(Array.getElem?_eq_some_iff.1 hh).1
        omega)) ?_
  intro w1 hR hB hgr
  exact hn w1 hR hgr (fun k hk=>by have:=HO.1 k (by rw[ownB]; exact hk); exact this) a ha
end
theorem grown_at {w w1:World}{r:Option Nat}(k:w.grownBy w1 r){g:Nat}(hg:g<w.heap.size)(hne:∀ x,r=some x→g≠x):w1.heap[g]?=w.heap[g]?:=by
  obtain⟨_,_,_,_,h⟩:=k
  exact h g hg (fun e=>hne g e.symm rfl)
theorem Blk.other {w w1:World}{g g':Nat}{t:TypeId}{cs:Array Value}(h:Blk w g t cs)(k:w.grownBy w1 (some g'))(hne:g≠g'):Blk w1 g t cs:=
  (grown_at k h.lt fun x hx e=>by injection hx with hx; omega).trans h
theorem Kd.R_past {α:Type}{d:Kd α}{e:Nat}{w w1:World}{base g:Nat}{v:Value}{xs:List α}(h:d.R e w base (OkFrom base) v xs)(k:w.grownBy w1 (some g))(hg:g<base):d.R e w1 base (OkFrom base) v xs:=
  Kd.R_step h fun j hj hlt=>grown_at k hlt fun x hx e=>by injection hx with hx; subst hx; subst e; have:base≤j:=hj; omega
section
variable {α : Type} {d : Kd α} {e : Nat} {w w1 W : World} {base : Nat} {ok : Nat → Prop} {A A1 B : Option Addr} {n c m c' : Nat} {xs ys : List α} {g : Nat}
theorem Kd.R_lt (h:d.R e w base ok (.slice A n c) xs):∀ k,A.map (·.block)=some k→k<w.heap.size:=by
  obtain⟨inner,ho⟩:=Kd.R_own h
  intro k hk
  exact own_lt ho k (by rw[ownB]; exact hk)
theorem Kd.R_ge (h:d.R e w base ok (.slice A n c) xs):∀ k,A.map (·.block)=some k→base≤k:=by
  obtain⟨inner,ho⟩:=Kd.R_own h
  intro k hk
  exact own_base ho k (by rw[ownB]; exact hk)
theorem Blk.ne {t:TypeId}{cs:Array Value}(h:Blk w g t cs){r:Option Nat}(k:w.grownBy w1 r)(hne:∀ k,r=some k→k≠g):Blk w1 g t cs:=
  (grown_at k h.lt fun x hx e=>hne x hx e.symm).trans h
theorem Kd.R_flat (hE:d.E=[])(h:d.R e w base ok (.slice B m c') ys){r:Option Nat}(k:w.grownBy w1 r)(hne:∀ k,r=some k→B.map (·.block)≠some k):d.R e w1 base ok (.slice B m c') ys:=by
  obtain⟨h0,inner,ho,hr⟩:=h
  have h2:d.R e w base (fun k=>ok k∧r≠some k) (.slice B m c') ys:=by
    refine⟨fun k hk=>⟨h0 k hk,fun e=>hne k e (by rw[ownB]at hk; exact hk)⟩,inner,ho,hr.imp_ (fun _ _ hp=>d.M_mono (fun k hk=>?_) (d.M_bound hp))⟩
    obtain⟨_,_,_,q,hq,_⟩:=hk
    rw[hE]at hq
    cases hq
  exact Kd.R_mono (Kd.R_grown h2 k (fun k hk e=>hk.2 e.symm)) (fun k hk=>hk.1)
theorem Kd.R_down {base':Nat}{v:Value}(h:d.R e w base (OkFrom base) v xs)(hb:base'≤base):d.R e w base' (OkFrom base') v xs:=
  Kd.R_mono (Kd.R_lower h hb) (fun k hk=>Nat.le_trans hb hk)
end
def Kd.comap {α β:Type}(f:β→α)(d:Kd α):Kd β where
  sz:=d.sz
  E:=d.E
  K:=fun w x cs=>d.K w (f x) cs
  M:=fun w b ok x cs=>d.M w b ok (f x) cs
  K_len:=fun h=>d.K_len h
  K_one:=fun h=>d.K_one h
  K_below:=fun hb h=>d.K_below hb h
  K_of_M:=fun h=>d.K_of_M h
  M_mono:=fun hk h=>d.M_mono hk h
  M_bound:=fun h=>d.M_bound h
  M_move:=fun hm h=>d.M_move hm h
  M_lower:=fun hb h=>d.M_lower hb h
def Kd.boxed {α:Type}(T:Nat)(d:Kd α):Kd α where
  sz:=1
  E:=d.E
  K:=fun w x cs=>∃ c,d.K w x c∧cs=[.iface T (.agg c.toArray)]
  M:=fun w b ok x cs=>∃ c,d.M w b ok x c∧cs=[.iface T (.agg c.toArray)]
  K_len:=fun h=>by obtain⟨c,_,rfl⟩:=h; rfl
  K_one:=fun h u hu=>by
    obtain⟨c,_,rfl⟩:=h
    rw[List.mem_singleton.1 hu]
    rfl
  K_below:=fun hb h=>by obtain⟨c,h,e⟩:=h; exact⟨c,d.K_below hb h,e⟩
  K_of_M:=fun h=>by obtain⟨c,h,e⟩:=h; exact⟨c,d.K_of_M h,e⟩
  M_mono:=fun hk h=>by obtain⟨c,h,e⟩:=h; exact⟨c,d.M_mono hk h,e⟩
  M_bound:=fun h=>by obtain⟨c,h,e⟩:=h; exact⟨c,d.M_bound h,e⟩
  M_move:=fun hm h=>by obtain⟨c,h,e⟩:=h; exact⟨c,d.M_move hm h,e⟩
  M_lower:=fun hb h=>by obtain⟨c,h,e⟩:=h; exact⟨c,d.M_lower hb h,e⟩
def Kd.sum {α β:Type}(a:Kd α)(b:Kd β)(hs:b.sz=a.sz):Kd (α ⊕ β) where
  sz:=a.sz
  E:=a.E++b.E
  K:=fun w x cs=>match x with
    | .inl x=>a.K w x cs
    | .inr y=>b.K w y cs
  M:=fun w bs ok x cs=>match x with
    | .inl x=>a.M w bs ok x cs
    | .inr y=>b.M w bs ok y cs
  K_len:=fun {w x cs} h=>by
    cases x with
    | inl x=>exact a.K_len h
    | inr y=>exact(b.K_len h).trans hs
  K_one:=fun {w x cs} h=>by
    cases x with
    | inl x=>exact a.K_one h
    | inr y=>exact b.K_one h
  K_below:=fun {w w1 x cs} hb h=>by
    cases x with
    | inl x=>exact a.K_below hb h
    | inr y=>exact b.K_below hb h
  K_of_M:=fun {w bs ok x cs} h=>by
    cases x with
    | inl x=>exact a.K_of_M h
    | inr y=>exact b.K_of_M h
  M_mono:=fun {w bs ok ok' x cs} hk h=>by
    cases x with
    | inl x=>exact a.M_mono hk h
    | inr y=>exact b.M_mono hk h
  M_bound:=fun {w bs ok x cs} h=>by
    cases x with
    | inl x=>exact a.M_mono (fun k ⟨h1,h2,h3,q,hq,hc⟩=>⟨h1,h2,h3,q,List.mem_append_left _ hq,hc⟩) (a.M_bound h)
    | inr y=>exact b.M_mono (fun k ⟨h1,h2,h3,q,hq,hc⟩=>⟨h1,h2,h3,q,List.mem_append_right _ hq,hc⟩) (b.M_bound h)
  M_move:=fun {w w1 bs ok x cs} hm h=>by
    cases x with
    | inl x=>exact a.M_move hm h
    | inr y=>exact b.M_move hm h
  M_lower:=fun {w bs bs' ok x cs} hb h=>by
    cases x with
    | inl x=>exact a.M_lower hb h
    | inr y=>exact b.M_lower hb h
abbrev At :=ByteArray×Int×Int×ByteArray
def at0 :At:=(ByteArray.empty,0,0,ByteArray.empty)
def atV (x:At):List Value:=[.string x.1,.int .i64 x.2.1,.int .i64 x.2.2.1,.string x.2.2.2]
def kAttr :Kd At:=Kd.pair Kd.string (Kd.pair (Kd.int .i64) (Kd.pair (Kd.int .i64) Kd.string))
theorem kAttr_K {w:World}{x:At}{c:List Value}(h:kAttr.K w x c):c=atV x:=by
  obtain⟨_,_,rfl,rfl,_,_,rfl,rfl,_,_,rfl,rfl,rfl⟩:=h
  rfl
theorem kAttr_M (w:World)(base:Nat)(ok:Nat→Prop)(x:At):kAttr.M w base ok x (atV x):=⟨[.string x.1],_,rfl,rfl,[.int .i64 x.2.1],_,rfl,rfl,[.int .i64 x.2.2.1],[.string x.2.2.2],rfl,rfl,rfl⟩
theorem kAttr_KM {w:World}{base:Nat}{ok:Nat→Prop}(x:At)(cs:List Value)(h:kAttr.K w x cs):kAttr.M w base ok x cs:=by rw[kAttr_K h]; exact kAttr_M _ _ _ _
theorem Kd.atAttr {w:World}{A:Option Addr}{n:Nat}{xs:List At}(h:kAttr.C w A n xs){i:Int}(h0:0≤i)(h1:i<n):∃ ad,A=some ad∧CellsAt w (ad.add (i.toNat*4)) (atV (xs.getD i.toNat at0)):=by
  obtain⟨ad,c,e,hK,hc⟩:=Kd.atC h at0 h0 h1
  obtain rfl:=kAttr_K hK
  exact⟨ad,e,hc⟩
theorem repsAttr {w:World}{base:Nat}{ok:Nat→Prop}(xs:List At):Reps (kAttr.M w base ok) 4 xs (xs.flatMap atV):=reps_flatMap (R:=kAttr.M w base ok) (size:=4) atV (fun _=>rfl) (fun x=>kAttr_M _ _ _ x) xs
set_option maxRecDepth 100000
structure OpA where
  kind:Int
  text:ByteArray
  vk:Int
  vn:Int
  vt:ByteArray
  count:Int
  attrs:List At
def op0 :OpA:=⟨0,ByteArray.empty,0,0,ByteArray.empty,0,[]⟩
abbrev o7L (x:OpA)(v:Value):List Value:=[.int .i64 x.kind,.string x.text,.int .i64 x.vk,.int .i64 x.vn,.string x.vt,.int .i64 x.count,v]
abbrev o7A (x:OpA)(v:Value):Array Value:=#[.int .i64 x.kind,.string x.text,.int .i64 x.vk,.int .i64 x.vn,.string x.vt,.int .i64 x.count,v]
def OpA.tup (o:OpA):Int×ByteArray×(Int×Int×ByteArray)×Int×List At:=(o.kind,o.text,(o.vk,o.vn,o.vt),o.count,o.attrs)
def OpA.val (o:OpA):Int×Int×ByteArray:=(o.vk,o.vn,o.vt)
abbrev kAttrs :Kd (List At):=Kd.slice 57 kAttr
def kOp :Kd OpA:=Kd.comap OpA.tup (Kd.pair (Kd.int .i64) (Kd.pair Kd.string (Kd.pair (Kd.pair (Kd.int .i64) (Kd.pair (Kd.int .i64) Kd.string)) (Kd.pair (Kd.int .i64) kAttrs))))
def opV (x:OpA)(A:Option Addr)(c:Nat):List Value:=[.int .i64 x.kind,.string x.text,.int .i64 x.vk,.int .i64 x.vn,.string x.vt,.int .i64 x.count,.slice A x.attrs.length c]
theorem kOp_K {w:World}{x:OpA}{cs:List Value}(h:kOp.K w x cs):∃ A c,cs=opV x A c∧x.attrs.length≤c∧kAttr.C w A x.attrs.length x.attrs:=by
  obtain⟨_,_,rfl,rfl,_,_,rfl,rfl,_,_,rfl,⟨_,_,rfl,rfl,_,_,rfl,rfl,rfl⟩,_,_,rfl,rfl,A,c,rfl,hl,hC⟩:=h
  exact⟨A,c,rfl,hl,hC⟩
theorem kOp_K_of {w:World}{x:OpA}{A:Option Addr}{c:Nat}(hl:x.attrs.length≤c)(hC:kAttr.C w A x.attrs.length x.attrs):kOp.K w x (opV x A c):=
  ⟨[.int .i64 x.kind],_,rfl,rfl,[.string x.text],_,rfl,rfl,[.int .i64 x.vk,.int .i64 x.vn,.string x.vt],_,rfl,⟨[.int .i64 x.vk],_,rfl,rfl,[.int .i64 x.vn],_,rfl,rfl,rfl⟩,[.int .i64 x.count],_,rfl,rfl,A,c,rfl,hl,hC⟩
theorem Kd.atOp {w:World}{A:Option Addr}{n:Nat}{xs:List OpA}(h:kOp.C w A n xs){i:Int}(h0:0≤i)(h1:i<n):∃ ad B c,A=some ad∧CellsAt w (ad.add (i.toNat*7)) (opV (xs.getD i.toNat op0) B c)∧(xs.getD i.toNat op0).attrs.length≤c∧kAttr.C w B (xs.getD i.toNat op0).attrs.length (xs.getD i.toNat op0).attrs:=by
  obtain⟨ad,cs,e,hK,hc⟩:=Kd.atC h op0 h0 h1
  obtain⟨B,c,rfl,hl,hC⟩:=kOp_K hK
  exact⟨ad,B,c,e,hc,hl,hC⟩
theorem kOp_M {w:World}{base:Nat}{ok:Nat→Prop}{x:OpA}{B:Option Addr}{c:Nat}(h:kAttrs.M w base ok x.attrs [.slice B x.attrs.length c]):kOp.M w base ok x (opV x B c):=
  ⟨[.int .i64 x.kind],_,rfl,rfl,[.string x.text],_,rfl,rfl,[.int .i64 x.vk,.int .i64 x.vn,.string x.vt],_,rfl,⟨[.int .i64 x.vk],_,rfl,rfl,[.int .i64 x.vn],_,rfl,rfl,rfl⟩,[.int .i64 x.count],_,rfl,rfl,h⟩
theorem kAttrs_nil {w:World}{base:Nat}{ok:Nat→Prop}:kAttrs.M w base ok [] [.slice none 0 0]:=⟨_,rfl,Kd.R_nil _ _ _ _ _⟩

def valV (v:Int×Int×ByteArray):Value:=
  if v.1=1 then .iface 296 (.bool (decide (v.2.1=1)))else if v.1=2 then .iface 297 (.int .i64 v.2.1)else if v.1=3 then .iface 298 (.string v.2.2)else .iface 300 (.agg #[])
def kVal :Kd (Int×Int×ByteArray):=Kd.scalar valV (fun v=>by unfold valV; repeat (first|rfl|split))

inductive PieceA where
  | ins (attrs:List At) (text:ByteArray) (len:Int)
  | emb (attrs:List At) (kind:ByteArray) (v:Int×Int×ByteArray)
  | ret (attrs:List At) (count:Int)
  | del (count:Int)
def piece0 :PieceA:=.del 0
def PieceA.sum :PieceA→(List At×ByteArray×Int) ⊕ (List At×ByteArray×(Int×Int×ByteArray)) ⊕ (List At×Int) ⊕ Int
  | .ins a t n=>.inl (a,t,n)
  | .emb a k v=>.inr (.inl (a,k,v))
  | .ret a c=>.inr (.inr (.inl (a,c)))
  | .del c=>.inr (.inr (.inr c))
def kPiece :Kd PieceA:=Kd.comap PieceA.sum (Kd.sum (Kd.boxed 249 (Kd.pair kAttrs (Kd.pair Kd.string (Kd.int .i64)))) (Kd.sum (Kd.boxed 253 (Kd.pair kAttrs (Kd.pair Kd.string kVal))) (Kd.sum (Kd.boxed 128 (Kd.pair kAttrs (Kd.int .i64))) (Kd.boxed 133 (Kd.int .i64)) rfl) rfl) rfl)
theorem kPiece_ins {w:World}{a:List At}{t:ByteArray}{n:Int}{cs:List Value}(h:kPiece.K w (.ins a t n) cs):∃ A c,cs=[.iface 249 (.agg #[.slice A a.length c,.string t,.int .i64 n])]∧a.length≤c∧kAttr.C w A a.length a:=by
  obtain⟨_,⟨_,_,rfl,⟨A,c,rfl,hl,hC⟩,_,_,rfl,rfl,rfl⟩,rfl⟩:=h
  exact⟨A,c,rfl,hl,hC⟩
theorem kPiece_emb {w:World}{a:List At}{k:ByteArray}{v:Int×Int×ByteArray}{cs:List Value}(h:kPiece.K w (.emb a k v) cs):∃ A c,cs=[.iface 253 (.agg #[.slice A a.length c,.string k,valV v])]∧a.length≤c∧kAttr.C w A a.length a:=by
  obtain⟨_,⟨_,_,rfl,⟨A,c,rfl,hl,hC⟩,_,_,rfl,rfl,rfl⟩,rfl⟩:=h
  exact⟨A,c,rfl,hl,hC⟩
theorem kPiece_ret {w:World}{a:List At}{n:Int}{cs:List Value}(h:kPiece.K w (.ret a n) cs):∃ A c,cs=[.iface 128 (.agg #[.slice A a.length c,.int .i64 n])]∧a.length≤c∧kAttr.C w A a.length a:=by
  obtain⟨_,⟨_,_,rfl,⟨A,c,rfl,hl,hC⟩,rfl⟩,rfl⟩:=h
  exact⟨A,c,rfl,hl,hC⟩
theorem kPiece_del {w:World}{n:Int}{cs:List Value}(h:kPiece.K w (.del n) cs):cs=[.iface 133 (.agg #[.int .i64 n])]:=by
  obtain⟨_,rfl,rfl⟩:=h
  rfl
theorem kPiece_Mins {w:World}{base:Nat}{ok:Nat→Prop}{a:List At}{t:ByteArray}{n:Int}{B:Option Addr}{c:Nat}(h:kAttrs.M w base ok a [.slice B a.length c]):kPiece.M w base ok (.ins a t n) [.iface 249 (.agg #[.slice B a.length c,.string t,.int .i64 n])]:=
  ⟨_,⟨_,_,rfl,h,[.string t],_,rfl,rfl,rfl⟩,rfl⟩
theorem kPiece_Memb {w:World}{base:Nat}{ok:Nat→Prop}{a:List At}{k:ByteArray}{v:Int×Int×ByteArray}{B:Option Addr}{c:Nat}(h:kAttrs.M w base ok a [.slice B a.length c]):kPiece.M w base ok (.emb a k v) [.iface 253 (.agg #[.slice B a.length c,.string k,valV v])]:=
  ⟨_,⟨_,_,rfl,h,[.string k],_,rfl,rfl,rfl⟩,rfl⟩
theorem kPiece_Mret {w:World}{base:Nat}{ok:Nat→Prop}{a:List At}{n:Int}{B:Option Addr}{c:Nat}(h:kAttrs.M w base ok a [.slice B a.length c]):kPiece.M w base ok (.ret a n) [.iface 128 (.agg #[.slice B a.length c,.int .i64 n])]:=
  ⟨_,⟨_,_,rfl,h,rfl⟩,rfl⟩
theorem kPiece_Mdel {w:World}{base:Nat}{ok:Nat→Prop}{n:Int}:kPiece.M w base ok (.del n) [.iface 133 (.agg #[.int .i64 n])]:=⟨_,rfl,rfl⟩
theorem Kd.atPiece {w:World}{A:Option Addr}{n:Nat}{xs:List PieceA}(h:kPiece.C w A n xs){i:Int}(h0:0≤i)(h1:i<n):∃ ad v,A=some ad∧CellsAt w (ad.add (i.toNat*1)) [v]∧kPiece.K w (xs.getD i.toNat piece0) [v]:=by
  obtain⟨ad,cs,e,hK,hc⟩:=Kd.atC h piece0 h0 h1
  have hl:=kPiece.K_len hK
  match cs,hl with
  | [v],_=>exact⟨ad,v,e,hc,hK⟩
theorem Kd.M_apart {α β:Type}{d:Kd α}{d':Kd β}{e':Nat}{w:World}{base base':Nat}{x:α}{cs:List Value}{A:Option Addr}{n c:Nat}{ys:List β}{ok':Nat→Prop}(h:d.M w base (OkFrom base) x cs)(hb:base'≤base)
    (h':d'.R e' w base' ok' (.slice A n c) ys) (hne:d.E.contains e'=false):∃ okp,d.M w base' okp x cs∧∀ k,okp k→OkFrom base' k∧some k≠A.map (·.block):=by
  cases A with
  | none=>exact⟨OkFrom base,d.M_lower hb h,fun k hk=>⟨Nat.le_trans hb hk,by simp⟩⟩
  | some ad=>
    obtain⟨inner,ho⟩:=Kd.R_own h'
    obtain⟨cells,hbl⟩:=own_typed ho ad.block rfl
    refine⟨_,d.M_lower hb (d.M_bound h),fun k hk=>⟨Nat.le_trans hb hk.1,fun e=>?_⟩⟩
    obtain⟨_,_,_,q,hq,cs',hc⟩:=hk
    obtain rfl:k=ad.block:=by simpa using e
    rw[hbl]at hc
    injection hc with hc
    injection hc with _ hq' _
    subst hq'
    rw[List.contains_iff_mem.2 hq]at hne
    cases hne
theorem kOp_M0 {w:World}{base:Nat}{ok:Nat→Prop}(x:OpA)(h:x.attrs=[]):kOp.M w base ok x (opV x none 0):=by
  obtain⟨k,t,a,b,s,c,at9⟩:=x
  obtain rfl:at9=[]:=h
  exact kOp_M kAttrs_nil
theorem repsOp0 {w:World}{base:Nat}{ok:Nat→Prop}:∀ (xs:List OpA),(∀ x∈xs,x.attrs=[])→Reps (kOp.M w base ok) 7 xs (xs.flatMap fun x=>opV x none 0)
  | [],_=>Reps.none _ _
  | x::xs,h=>by
    have hs:Reps (kOp.M w base ok) 7 [x] (opV x none 0):=by
      have:=(Reps.none (kOp.M w base ok) 7).snoc (kOp_M0 x (h x List.mem_cons_self)) rfl
      simpa using this
    have:=Kd.reps_append hs (repsOp0 xs fun y hy=>h y (List.mem_cons_of_mem _ hy))
    simpa using this

def kRaw (n:Nat):Kd (List Value) where
  sz:=n
  E:=[]
  K:=fun _ x cs=>cs=x∧x.length=n∧∀ u∈x,u.oneCell'=true
  M:=fun _ _ _ x cs=>cs=x∧x.length=n∧∀ u∈x,u.oneCell'=true
  K_len:=fun h=>by rw[h.1]; exact h.2.1
  K_one:=fun h=>by rw[h.1]; exact h.2.2
  K_below:=fun _ h=>h
  K_of_M:=fun h=>h
  M_mono:=fun _ h=>h
  M_bound:=fun h=>h
  M_move:=fun _ h=>h
  M_lower:=fun _ h=>h
theorem Kd.C_raw {α:Type}{d:Kd α}(z:α){w:World}{A:Option Addr}{n:Nat}{xs:List α}(h:d.C w A n xs):∃ vs,(kRaw d.sz).C w A n vs∧∀ i,i<n→d.K w (xs.getD i z) (vs.getD i []):=by
  obtain⟨h1,h2,h3⟩:=h
  by_cases h0:n=0
  · subst h0
    exact⟨[],⟨rfl,h2,fun h=>by omega⟩,fun i hi=>by omega⟩
  · obtain⟨ad,e,hc⟩:=h3 (by omega)
    have each:∀ i:Fin n,∃ c:List Value,c.length=d.sz∧d.K w (xs.getD i.1 z) c∧∀ j u,c[j]?=some u→w.cell? (ad.add (i.1*d.sz+j))=some u:=by
      intro i
      have hi:i.1<xs.length:=by have:=i.2; omega
      obtain⟨c,a,b,e⟩:=hc i.1 _ (List.getElem?_eq_getElem hi)
      exact⟨c,a,by rw[List.getD_eq_getElem?_getD,List.getElem?_eq_getElem hi]; exact b,e⟩
    obtain⟨f,hf⟩:=Classical.axiomOfChoice each
    refine⟨List.ofFn f,⟨by simp,h2,fun _=>⟨ad,e,fun j p hj=>?_⟩⟩,fun i hi=>?_⟩
    · rw[List.getElem?_ofFn]at hj
      split at hj
      · rename_i hlt
        injection hj with hj
        subst hj
        obtain⟨a,b,c⟩:=hf ⟨j,hlt⟩
        exact⟨_,a,⟨rfl,a,d.K_one b⟩,c⟩
      · cases hj
    · have e2:(List.ofFn f).getD i []=f ⟨i,hi⟩:=by
        rw[List.getD_eq_getElem?_getD,List.getElem?_ofFn,dif_pos hi]; rfl
      rw[e2]
      exact(hf ⟨i,hi⟩).2.1
theorem Kd.C_ofRaw {α:Type}{d:Kd α}(z:α){w:World}{A:Option Addr}{n:Nat}{xs:List α}{vs:List (List Value)}(h:(kRaw d.sz).C w A n vs)(hl:xs.length=n)(hK:∀ i,i<n→d.K w (xs.getD i z) (vs.getD i [])):d.C w A n xs:=by
  obtain⟨h1,h2,h3⟩:=h
  refine⟨hl,h2,fun h0=>?_⟩
  obtain⟨ad,e,hc⟩:=h3 h0
  refine⟨ad,e,fun j p hj=>?_⟩
  have hj1:=(List.getElem?_eq_some_iff.1 hj).1
  have hj2:j<vs.length:=by omega
  obtain⟨c,a,b,cc⟩:=hc j _ (List.getElem?_eq_getElem hj2)
  have hk:=hK j (by omega)
  rw[List.getD_eq_getElem?_getD,hj,List.getD_eq_getElem?_getD,List.getElem?_eq_getElem hj2]at hk
  obtain⟨rfl,_⟩:=b
  exact⟨_,a,hk,cc⟩

section
variable {α : Type} {d : Kd α} {z : α} {e : Nat} {W0 W w w1 : World} {A A' : Option Addr} {n c m c' : Nat} {xs ys : List α}
end
end Go.Proofs.YtgphmfnkeolbcaaGreatDoor.RX
