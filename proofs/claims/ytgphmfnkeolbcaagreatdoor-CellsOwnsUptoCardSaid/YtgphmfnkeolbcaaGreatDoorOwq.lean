import Derived.Test.YtgphmfnkeolbcaaGreatDoorT33
import Derived.Test.YtgphmfnkeolbcaaGreatDoorT50
/- Rows of cells with attributes of their own, whose keys are written over and read again. No condition. -/
set_option linter.unusedVariables false
set_option linter.unusedSimpArgs false
set_option maxRecDepth 100000
namespace Go.Proofs.YtgphmfnkeolbcaaGreatDoor.RX
open Go Go.RowKit Go.Proofs.YtgphmfnkeolbcaaGreatDoorW.PrintWords
structure ShapeQ (e' e:Nat) (ok:Nat→Prop) (w:World) (A:Option Addr) (c:Nat) (es:List ElA):Prop where
  o:LiesO e' 6 ok w A es.length c
  r:∀ j,j<es.length→∃ ad a0 a1 a2 a3 a4,A=some ad∧CellsAt w (ad.add (j*6)) [a0,a1,a2,a3,a4,.slice (es.getD j el0).2.2.1 (es.getD j el0).2.1.attrs.length (es.getD j el0).2.2.2]∧LiesO e 4 ok w (es.getD j el0).2.2.1 (es.getD j el0).2.1.attrs.length (es.getD j el0).2.2.2
def KeyAt (x:ElA)(q:Nat)(v:ByteArray)(w:World):Prop:=∃ g,x.2.2.1=some ⟨g,0,none⟩∧w.cell? ⟨g,q*4,none⟩=some (.string v)
def KeyI (es:List ElA)(f:Nat→ByteArray)(i k:Nat)(w:World):Prop:=(∀ j,j<i→∀ q,q<(es.getD j el0).2.1.attrs.length→KeyAt (es.getD j el0) q (f j) w)∧∀ q,q<k→KeyAt (es.getD i el0) q (f i) w
def Apart (es:List ElA):Prop:=∀ s t,s<t→t<es.length→EAp (es.getD s el0) (es.getD t el0)
def RowKeeps (B:Option Addr)(n:Nat)(w w1:World):Prop:=(∀ g,g<w.heap.size→B.map (·.block)≠some g→w1.heap[g]?=w.heap[g]?)∧∀ g o,B=some ⟨g,0,none⟩→o<n→w1.cell? ⟨g,o,none⟩=w.cell? ⟨g,o,none⟩
theorem cell_same {w w1:World}{g:Nat}(h:w1.heap[g]?=w.heap[g]?)(o:Nat):w1.cell? ⟨g,o,none⟩=w.cell? ⟨g,o,none⟩:=by simp only[World.cell?,h]
theorem LiesO.cells {e' e sz:Nat}{ok ok':Nat→Prop}{w w1:World}{A:Option Addr}{n c:Nat}(h:LiesO e' sz ok w A n c)(hi:0<n)(hw:SpoilO (· =e) ok' w w1)(hne:e'≠e){ad:Addr}(hA:A=some ad){k:Nat}{vs:List Value}(hc:CellsAt w (ad.add k) vs):CellsAt w1 (ad.add k) vs:=by
  obtain⟨g,cs,e1,_,hb,_⟩:=h.at hi
  obtain rfl:ad=⟨g,0,none⟩:=by rw[hA]at e1; injection e1
  exact cellsAt_blk (hw.other hb hne) (blk_cellsAt hc hb)
theorem SpoilO.same {es ok:Nat→Prop}{w w1:World}(h:SpoilO es ok w w1){g:Nat}(hg:g<w.heap.size)(hn:¬ok g):w1.heap[g]?=w.heap[g]?:=(h.k g hg).resolve_right fun h'=>hn h'.1
theorem SpoilO.far {es ok:Nat→Prop}{w w1:World}(h:SpoilO es ok w w1){g t:Nat}{cs:Array Value}(hb:RX.Blk w g t cs)(hn:¬ok g):RX.Blk w1 g t cs:=(h.same hb.lt hn).trans hb
theorem SpoilO.lo {es ok:Nat→Prop}{w w1:World}(h:SpoilO es ok w w1){n:Nat}(hn:n≤w.heap.size)(hd:∀ g,g<n→¬ok g):Below n w w1:=⟨h.os,h.tape,h.output,h.size,fun g hg=>h.same (Nat.lt_of_lt_of_le hg hn) (hd g hg)⟩
theorem Kd.R_far {α:Type}{d:Kd α}{e base:Nat}{es ok ok':Nat→Prop}{w w1:World}{v:Value}{xs:List α}(h:d.R e w base ok v xs)(hs:SpoilO es ok' w w1)(hd:∀ g,ok g→¬ok' g):d.R e w1 base ok v xs:=
  Kd.R_mono (Kd.R_move (Kd.R_bound h) fun k hk=>hs.same hk.2.2.1 (hd k hk.1)) fun _ hk=>hk.1
theorem ShapeP.far {p e' e n c i:Nat}{es ok ok':Nat→Prop}{w w1:World}{A:Option Addr}(h:ShapeP p e' e ok w A n c i)(hs:SpoilO es ok' w w1)(hd:∀ g,ok g→¬ok' g):ShapeP p e' e ok w1 A n c i:=⟨h.o.spoil hs,fun j h1 h2=>by
  obtain⟨ad,pre,B,m,c2,a,b,d,k,q⟩:=h.r j h1 h2
  obtain⟨g,cs,e1,hg,hb,_⟩:=h.o.at (by omega)
  obtain rfl:ad=⟨g,0,none⟩:=by rw[a]at e1; injection e1
  exact⟨_,pre,B,m,c2,a,cellsAt_blk (hs.far hb (hd g hg)) (blk_cellsAt b hb),d,k.spoil hs,q⟩⟩
theorem ShapeP.imp {p e' e n c i:Nat}{ok ok':Nat→Prop}{w:World}{A:Option Addr}(h:ShapeP p e' e ok w A n c i)(hi:∀ g,ok g→ok' g):ShapeP p e' e ok' w A n c i:=⟨h.o.imp hi,fun j h1 h2=>by
  obtain⟨ad,pre,B,m,c2,a,b,d,k,q⟩:=h.r j h1 h2
  exact⟨ad,pre,B,m,c2,a,b,d,k.imp hi,q⟩⟩
section
variable {e' e : Nat} {ok : Nat → Prop} {w w1 : World} {A : Option Addr} {c i k : Nat} {es : List ElA} {f : Nat → ByteArray}
theorem ShapeQ.below (hb:Below w.heap.size w w1)(h:ShapeQ e' e ok w A c es):ShapeQ e' e ok w1 A c es:=⟨h.o.below hb,fun j h1=>by
  obtain⟨ad,a0,a1,a2,a3,a4,a,b,d⟩:=h.r j h1
  exact⟨ad,a0,a1,a2,a3,a4,a,cells_below b hb,d.below hb⟩⟩
theorem ShapeQ.wr {ok':Nat→Prop}(h:ShapeQ e' e ok w A c es)(hw:SpoilO (· =e) ok' w w1)(hne:e'≠e):ShapeQ e' e ok w1 A c es:=⟨h.o.spoil hw,fun j h1=>by
  obtain⟨ad,a0,a1,a2,a3,a4,a,b,d⟩:=h.r j h1
  exact⟨ad,a0,a1,a2,a3,a4,a,h.o.cells (by omega) hw hne a b,d.spoil hw⟩⟩
theorem ShapeQ.far {es' ok':Nat→Prop}(h:ShapeQ e' e ok w A c es)(hs:SpoilO es' ok' w w1)(hd:∀ g,ok g→¬ok' g):ShapeQ e' e ok w1 A c es:=⟨h.o.spoil hs,fun j h1=>by
  obtain⟨ad,a0,a1,a2,a3,a4,a,b,d⟩:=h.r j h1
  obtain⟨g,cs,e1,hg,hb,_⟩:=h.o.at (by omega)
  obtain rfl:ad=⟨g,0,none⟩:=by rw[a]at e1; injection e1
  exact⟨_,a0,a1,a2,a3,a4,a,cellsAt_blk (hs.far hb (hd g hg)) (blk_cellsAt b hb),d.spoil hs⟩⟩
theorem ShapeQ.shapeP (h:ShapeQ e' e ok w A c es)(hm:∀ j,j<es.length→(es.getD j el0).2.1.attrs.length≤100000000):ShapeP 5 e' e ok w A es.length c 0:=⟨h.o,fun j _ h1=>by
  obtain⟨ad,a0,a1,a2,a3,a4,a,b,d⟩:=h.r j h1
  exact⟨ad,[a0,a1,a2,a3,a4],_,_,_,a,b,rfl,d,hm j h1⟩⟩
theorem KeyI.below (hb:Below w.heap.size w w1)(h:KeyI es f i k w):KeyI es f i k w1:=
  have H:∀ {x q v},KeyAt x q v w→KeyAt x q v w1:=fun⟨g,a,b⟩=>⟨g,a,(hb.cell (World.block_lt_of_cell? _ _ b)).trans b⟩
  ⟨fun j hj q hq=>H (h.1 j hj q hq),fun q hq=>H (h.2 q hq)⟩
theorem KeyI.zero (w:World):KeyI es f 0 0 w:=⟨fun j hj=>absurd hj (Nat.not_lt_zero _),fun q hq=>absurd hq (Nat.not_lt_zero _)⟩
theorem ShapeQ.put (h:ShapeQ e' e ok w A c es)(hne:e'≠e)(hd:Apart es)(hk:KeyI es f i k w)(hi:i<es.length){g:Nat}{cs:Array Value}(hB:(es.getD i el0).2.2.1=some ⟨g,0,none⟩)(hok:ok g)(hb:RX.Blk w g e cs)(hl:k*4+1≤cs.size)(hg:w.grownBy w1 (some g))(hb1:RX.Blk w1 g e (setAll cs (k*4) [.string (f i)])):WroteO e ok w w1∧ShapeQ e' e ok w1 A c es∧KeyI es f i (k+1) w1:=by
  have hw:WroteO e ok w w1:=⟨some g,hg,fun q hq=>by injection hq with hq; subst hq; exact⟨hok,cs,_,hb,hb1,setAll_size _ _ _⟩⟩
  refine⟨hw,h.wr (SpoilO.of_wrote (es:=(· =e)) hw rfl) hne,fun j hj q hq=>?_,fun q hq=>?_⟩
  · obtain⟨g',e1,e2⟩:=hk.1 j hj q hq
    have hn:g'≠g:=fun e=>by subst e; exact hd j i hj hi g' (by rw[e1]; rfl) (by rw[hB]; rfl)
    exact⟨g',e1,by rw[cell_same (hg.block g' (World.block_lt_of_cell? _ _ e2) (fun e=>hn (Option.some.inj e)))]; exact e2⟩
  · by_cases hqk:q=k
    · subst hqk
      refine⟨g,hB,Blk.cell hb1 _ _ ?_⟩
      show (cs.setIfInBounds (q*4) _)[q*4]?=_
      rw[Array.getElem?_setIfInBounds_self_of_lt (by omega)]
    · obtain⟨g',e1,e2⟩:=hk.2 q (by omega)
      obtain rfl:g'=g:=by rw[hB]at e1; injection e1 with e1; injection e1 with e1; exact e1.symm
      rw[cell_of_row w g' (q*4) cs e (0,0) hb]at e2
      exact⟨g',hB,Blk.cell hb1 _ _ (by rw[setAll_get1 _ _ _ _ (by omega)]; exact e2)⟩
theorem ShapeQ.app {ok':Nat→Prop}(h:ShapeQ e' e ok w A c es)(hne:e'≠e)(hd:Apart es)(hk:KeyI es f i (es.getD i el0).2.1.attrs.length w)(hi:i<es.length)(hw:WroteO e ok' w w1)(hr:RowKeeps (es.getD i el0).2.2.1 ((es.getD i el0).2.1.attrs.length*4) w w1):ShapeQ e' e ok w1 A c es∧KeyI es f (i+1) 0 w1:=by
  refine⟨h.wr (SpoilO.of_wrote (es:=(· =e)) hw rfl) hne,fun j hj q hq=>?_,fun q hq=>absurd hq (Nat.not_lt_zero _)⟩
  by_cases hji:j=i
  · subst hji
    obtain⟨g',e1,e2⟩:=hk.2 q hq
    exact⟨g',e1,(hr.2 g' _ e1 (by omega)).trans e2⟩
  · obtain⟨g',e1,e2⟩:=hk.1 j (by omega) q hq
    exact⟨g',e1,(cell_same (hr.1 g' (World.block_lt_of_cell? _ _ e2) (hd j i (by omega) hi g' (by rw[e1]; rfl))) _).trans e2⟩
end
theorem run_append_liesK {P:Program}{w W:World}(t ty e:TypeId)(i:TypeInfo)(z:Value)(ht:P.underlying t=some (.slice e))(hi:P.info? e=some i)(hz:i.zero=some z)(hzs:z.cells.size=i.size)(hsz:0<i.size){ok:Nat→Prop}(hok:∀ g,W.heap.size≤g→ok g){B:Option Addr}{n c:Nat}(hL0:LiesO e i.size ok W B n c)(hW:Below W.heap.size W w)
    (a:Addr) (c':Nat) (news:List Value) (hl:news.length=i.size) (hnews:∀ j u,news[j]?=some u→w.cell? (a.add j)=some u) (h1:∀ u∈news,u.oneCell'=true) (hbytes:(n+1)*i.bytes≤140737488355328) (hn:n≤140737488355328):
    ∃ A1 c1 w',(Builtin.append_ #[t,t] ty #[.slice B n c,.slice (some a) 1 c']).run P w=.ok (.slice A1 (n+1) c1) w'∧WroteO e ok W w'∧RowKeeps B (n*i.size) W w':=by
  obtain⟨hnc,hcm,hL⟩:=hL0
  have hkeep:∀ w':World,Below W.heap.size W w'→RowKeeps B (n*i.size) W w':=fun w' hb=>by
    refine⟨fun g hg _=>hb.block g hg,fun g o hB _=>?_⟩
    rcases hL with ⟨h,_⟩|⟨g',cur',h,_,hb0,_⟩
    · rw[h]at hB; cases hB
    · rw[h]at hB; injection hB with hB; injection hB with hB; subst hB
      exact cell_same (hb.block g' hb0.lt) o
  rcases hL with ⟨rfl,rfl⟩|⟨g,cur,rfl,hg,hb0,hs⟩
  · obtain rfl:n=0:=by omega
    have hr:=run_append_nil (P:=P) w t ty e i z ht hi hz a 1 c' news (by omega) hnews (by omega) (by omega) (by omega)
    have hbw:∀ o:Obj,Below W.heap.size W (w.drew.alloc o):=fun o=>⟨hW.os,hW.tape,hW.output,by have:=hW.size; simp; omega,fun k hk=>(Below.heap_alloc w.drew _ k (Nat.lt_of_lt_of_le hk hW.size)).trans (hW.block k hk)⟩
    exact⟨_,_,_,hr,⟨none,⟨(hbw _).os,(hbw _).tape,(hbw _).output,(hbw _).size,fun k hk _=>(hbw _).block k hk⟩,fun g hg=>by cases hg⟩,hkeep _ (hbw _)⟩
  · have hb:RX.Blk w g e cur:=Blk.below hb0 hW
    by_cases hroom:n+1≤c
    · have hfit:n*i.size+news.length≤cur.size:=by
        rw[hl,hs,←Nat.succ_mul]
        exact Nat.mul_le_mul_right _ hroom
      have hr:=run_append_room (P:=P) w t ty e i ht hi g n c cur hb a 1 c' news (by omega) hnews h1 hroom hfit
      have hset:=setRow_heap w g cur (cur.toList.take (n*i.size)++news++cur.toList.drop (n*i.size+news.length)).toArray e _ hb
      refine⟨_,_,_,hr,⟨some g,?_,fun k hk=>by
        injection hk with hk
        subst hk
        refine⟨hg,cur,_,hb0,hset,?_⟩
        simp only[List.size_toArray,List.length_append,List.length_take,List.length_drop,Array.length_toList]
        omega⟩,fun k hk hne=>(setRow_other w g k _ (fun e=>hne (by rw[e]; rfl))).trans (hW.block k hk),fun g' o hB ho=>?_⟩
      · exact⟨hW.os,hW.tape,hW.output,by have:=hW.size; simp[World.setRow]; omega,fun k hk hne=>(setRow_other w g k _ (fun e=>hne (by rw[e]))).trans (hW.block k hk)⟩
      · injection hB with hB
        injection hB with hB
        subst hB
        rw[cell_of_row W g o cur e (0,0) hb0,cell_of_row _ g o _ e (0,0) hset]
        rw[List.getElem?_toArray,List.append_assoc,List.getElem?_append_left (by rw[List.length_take,Array.length_toList]; omega),List.getElem?_take,if_pos ho,Array.getElem?_toList]
    · have hms:n*i.size≤c*i.size:=Nat.mul_le_mul_right _ hnc
      have hr:=run_append_grow (P:=P) w t ty e i z ht hi hz ⟨g,0,none⟩ n c (cur.toList.take (n*i.size)) (by rw[List.length_take,Array.length_toList]; omega) (fun j u hu=>by
        have e2:(⟨g,0,none⟩:Addr).add j=⟨g,j,none⟩:=by unfold Addr.add; split<;>simp_all
        rw[e2,cell_of_row w g j cur e (0,0) hb]
        rw[List.getElem?_take]at hu
        split at hu
        · simpa using hu
        · cases hu) a 1 c' news (by omega) hnews (by omega) (by omega) (growslice_fits (by omega) hbytes)
      have hbw:∀ o:Obj,Below W.heap.size W (w.drew.alloc o):=fun o=>⟨hW.os,hW.tape,hW.output,by have:=hW.size; simp; omega,fun k hk=>(Below.heap_alloc w.drew _ k (Nat.lt_of_lt_of_le hk hW.size)).trans (hW.block k hk)⟩
      exact⟨_,_,_,hr,⟨none,⟨(hbw _).os,(hbw _).tape,(hbw _).output,(hbw _).size,fun k hk _=>(hbw _).block k hk⟩,fun g hg=>by cases hg⟩,hkeep _ (hbw _)⟩
theorem XL_appendLiesK {P:Program}{N:Nat}{ops:Array Oper}{qs:QS}{rest:List Oper}{o:Oper}{l:Slots}{W:World}{s x:Operand}{t:TypeId}(ho:o.op=.call { callee:=.builtin .append,args:=#[s,x],argTypes:=#[t,t] })(hg:gd ops l o=some true)(hd:okD N o.dst=true)(e:Nat)(z:Value)(size bytes:Nat)
    (ht:P.underlying t=some (.slice e)) (hinfo:(P.info? e).map (fun i=>(i.zero,i.size,i.bytes))=some (some z,size,bytes)) (hz:z.cells.size=size) (hs0:0<size)
    {B:Option Addr} {n c:Nat} {ok:Nat→Prop} (cs:List Value) (hv:evs l [s,x]=some [.slice B n c,.slice (some ⟨W.heap.size,0,none⟩) 1 1]) (hcs:cs.length=size) (h1:cs.all (·.oneCell')=true)
    (hok:∀ g,W.heap.size≤g→ok g) (hL:LiesO e size ok W B n c) (hl:(n+1)*bytes≤140737488355328) (hn0:n≤140737488355328)
    (hn:∀ A1 c1 w1,WroteO e ok W w1→RowKeeps B (n*size) W w1→XL P N ops rest qs (putS l o.dst (.slice A1 (n+1) c1)) w1):XL P N ops (o::rest) qs l (W.alloc (.cells cs.toArray e)):=by
  obtain⟨i0,hi0,hzz⟩:=Option.map_eq_some_iff.1 hinfo
  simp only[Prod.mk.injEq]at hzz
  obtain⟨hz0,hz1,hz2⟩:=hzz
  subst hz1
  subst hz2
  refine XL_law hd hg fun a ha=>?_
  have he:=evs_ok ha _ _ hv
  simp only[List.map_cons,List.map_nil,List.cons.injEq,and_true]at he
  refine wpList_plain rfl fun K hK=>?_
  obtain⟨A1,c1,w1,hr,hw,hL1⟩:=run_append_liesK (P:=P) (w:=W.alloc (.cells cs.toArray e)) t o.type e i0 z ht hi0 hz0 hz hs0 hok hL ((Below.refl _ W).alloc (Nat.le_refl _) _) ⟨W.heap.size,0,none⟩ 1 cs hcs
    (by simpa using World.news_of_block (cs:=cs.toArray) (t:=e) (fr:=(0,0)) (heap_alloc_new W (.cells cs.toArray e))) (fun u hu=>List.all_eq_true.1 h1 u hu) hl hn0
  unfold Oper.wp execOp
  simp only[ho,resolve,invoke,builtin,Sem.run_bind,Sem.run_pure,Result.andThen_ok,List.map_toArray,List.map_cons,List.map_nil,he.1,he.2,hr]
  exact hK _ _ (hn A1 c1 w1 hw hL1 _ (ha.putS hd _))
theorem addK {ad:Addr}{g:Nat}(had:ad=⟨g,0,none⟩)(n:Nat):ad.add n=⟨g,n,none⟩:=by subst had; unfold Addr.add; split<;>simp_all
theorem KeyAt.cells {x:ElA}{q:Nat}{v:ByteArray}{w:World}(h:KeyAt x q v w):∃ ad,x.2.2.1=some ad∧CellsAt w (ad.add (q*4)) [.string v]:=by
  obtain⟨g,e1,e2⟩:=h
  refine⟨_,e1,fun j u hu=>?_⟩
  rw[addK rfl]
  match j,hu with
  | 0,hu=>
    obtain rfl:=Option.some.inj hu
    have e3:(⟨g,q*4,none⟩:Addr).add 0=⟨g,q*4,none⟩:=by unfold Addr.add; split<;>simp_all
    rw[e3]; exact e2
theorem XL_putK {P:Program}{N:Nat}{ops:Array Oper}{qs:QS}{rest:List Oper}{o:Oper}{l:Slots}{w:World}{t:TypeId}{p x:Operand}(ho:o.op=.store t p x)(hdn:o.dst=none)(hg:gd ops l o=some true)
    {g bt n:Nat} {a0:Addr} {cs:Array Value} {s:ByteArray} (ha:a0=⟨g,n,none⟩) (hp:evs l [p,x]=some [.pointer (some a0),.string s]) (hb:Blk w g bt cs) (hs:sizeP P t=some 1) (hl:n+1≤cs.size)
    (hn:∀ w1,w.grownBy w1 (some g)→Blk w1 g bt (setAll cs n [.string s])→XL P N ops rest qs l w1):XL P N ops (o::rest) qs l w:=by
  subst ha
  exact XL_store ho hdn hg hp hb n [.string s] _ ⟨rfl,rfl,hs⟩ ⟨rfl,rfl⟩ hl fun w1 h2 h3 _=>hn w1 h2 h3
theorem shapeQ_els {e' base:Nat}{w:World}{A:Option Addr}{c:Nat}{xs:List ElA}{ok:Nat→Prop}(h:kEl.R e' w base (OkFrom base) (.slice A xs.length c) xs)(hok:∀ g,base≤g→g<w.heap.size→ok g):ShapeQ e' 57 ok w A c xs:=by
  have hb:=Kd.R_bound h
  refine⟨LiesO.of_R (d:=kEl) hb fun k h1 _ h3=>hok k h1 h3,fun j hj=>?_⟩
  obtain⟨hn,hc⟩:=Kd.R_len h
  obtain⟨vss,hR,hl,hM⟩:=Kd.R_raw el0 hb
  obtain⟨ad,cc,hA,hK,hcc⟩:=Kd.atC (Kd.R_C hR) [] (i:=(j:Int)) (by omega) (by omega)
  obtain⟨hMj,hval⟩:=hM j hj
  obtain⟨B,c2,e5,hlc,hv⟩:=kCell_M_slice hMj
  obtain rfl:cc=vss.getD (j:Int).toNat []:=hK.1
  have h9:CellsAt w (ad.add (j*6)) (vss.getD j []):=hcc
  rw[hval]at h9 e5
  have e6:B=(xs.getD j el0).2.2.1∧c2=(xs.getD j el0).2.2.2:=by
    simp only[cellV,List.cons.injEq,Value.slice.injEq,and_true,true_and]at e5
    exact⟨e5.1.symm,e5.2.symm⟩
  rw[e6.1,e6.2]at hv
  exact⟨ad,_,_,_,_,_,hA,h9,LiesO.of_R (d:=kAttr) hv fun k h1 _ h3=>hok k h1 h3⟩
end Go.Proofs.YtgphmfnkeolbcaaGreatDoor.RX
