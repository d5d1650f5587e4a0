import Derived.Test.YtgphmfnkeolbcaaGreatDoorT6
import Derived.Test.YtgphmfnkeolbcaaGreatDoorSpare
import Derived.Laws.AppendOwn
import Derived.Test.YtgphmfnkeolbcaaGreatDoorCls
import Derived.Test.YtgphmfnkeolbcaaGreatDoorRow
/- The laws of layer build: their fixed fact, what is large. Conditions: sizes, the tables of utf8, the errors' variables. -/

set_option linter.unusedVariables false
set_option linter.unusedSimpArgs false
set_option maxRecDepth 100000
namespace Go.Proofs.YtgphmfnkeolbcaaGreatDoor
open Go Go.RowKit Go.Proofs.YtgphmfnkeolbcaaGreatDoorW.PrintWords RX
theorem can_facts {xs:List OpA}(h:(B.bOf xs).2=0)(hn:xs.length≤500000)(hz:∀ i,i<xs.length→opSz (xs.getD i op0))(ht:B.txS xs≤50000000):badE (B.can xs)=0∧(B.can xs).length≤1100000∧(∀ i,i<(B.can xs).length→opSz ((B.can xs).getD i op0))∧Can (B.can xs):=by
  obtain⟨c1,c2⟩:=B.bOf_canOk h
  have hl:=B.can_len xs
  have hs:=B.can_sz (xs:=xs) (fun o ho=>by
    obtain⟨i,hi,rfl⟩:=List.getElem_of_mem ho
    have:=hz i hi
    rw[List.getD_eq_getElem?_getD,List.getElem?_eq_getElem hi]at this
    exact B.fine_of this) ht
  exact⟨c2,by omega,fun i hi=>hs _ (getD_mem op0 hi),c1⟩
end Go.Proofs.YtgphmfnkeolbcaaGreatDoor
set_option linter.unusedVariables false
set_option linter.unusedSimpArgs false
set_option maxRecDepth 100000
namespace Go.Proofs.YtgphmfnkeolbcaaGreatDoor.RX
open Go Go.RowKit Go.Proofs.YtgphmfnkeolbcaaGreatDoorW.PrintWords
def LiesO (e sz:Nat)(ok:Nat→Prop)(w:World)(B:Option Addr)(m c:Nat):Prop:=
  m≤c∧c≤9223372036854775807∧((B=none∧c=0)∨∃ g cs,B=some ⟨g,0,none⟩∧ok g∧RX.Blk w g e cs∧cs.size=c*sz)
def WroteO (e:Nat)(ok:Nat→Prop)(w w1:World):Prop:=∃ r,w.grownBy w1 r∧∀ g,r=some g→ok g∧∃ cs cs',RX.Blk w g e cs∧RX.Blk w1 g e cs'∧cs'.size=cs.size
structure SpoilO (es ok:Nat→Prop) (w w':World):Prop where
  os:w'.os=w.os
  tape:w'.tape=w.tape
  output:w'.output=w.output
  size:w.heap.size≤w'.heap.size
  k:∀ g,g<w.heap.size→w'.heap[g]?=w.heap[g]?∨(ok g∧∃ e cs cs',es e∧RX.Blk w g e cs∧RX.Blk w' g e cs'∧cs'.size=cs.size)
theorem SpoilO.refl (es ok:Nat→Prop)(w:World):SpoilO es ok w w:=⟨rfl,rfl,rfl,Nat.le_refl _,fun _ _=>.inl rfl⟩
theorem SpoilO.of_wrote {es ok:Nat→Prop}{e:Nat}{w w1:World}(h:WroteO e ok w w1)(he:es e):SpoilO es ok w w1:=by
  obtain⟨r,hg,hr⟩:=h
  refine⟨hg.os,hg.tape,hg.output,hg.size,fun g hlt=>?_⟩
  by_cases e1:some g=r
  · obtain⟨h1,cs,cs',h2,h3,h4⟩:=hr g e1.symm
    exact .inr ⟨h1,e,cs,cs',he,h2,h3,h4⟩
  · exact .inl (hg.block g hlt e1)
theorem SpoilO.trans {es ok:Nat→Prop}{a b c:World}(h:SpoilO es ok a b)(k:SpoilO es ok b c):SpoilO es ok a c:=by
  refine⟨k.os.trans h.os,k.tape.trans h.tape,k.output.trans h.output,Nat.le_trans h.size k.size,fun g hg=>?_⟩
  rcases h.k g hg with h1|⟨h1,e,cs,cs',he,h2,h3,h4⟩
  · rcases k.k g (Nat.lt_of_lt_of_le hg h.size)with k1|⟨k1,e,cs,cs',he,k2,k3,k4⟩
    · exact .inl (k1.trans h1)
    · exact .inr ⟨k1,e,cs,cs',he,h1.symm.trans k2,k3,k4⟩
  · rcases k.k g (Nat.lt_of_lt_of_le hg h.size)with k1|⟨k1,e2,cs2,cs3,he2,k2,k3,k4⟩
    · exact .inr ⟨h1,e,cs,cs',he,h2,k1.trans h3,h4⟩
    · have e0:some (Obj.cells cs' e (0,0))=some (Obj.cells cs2 e2 (0,0)):=(show b.heap[g]?=_ from h3).symm.trans k2
      injection e0 with e0
      injection e0 with e1 e3
      subst e1; subst e3
      exact .inr ⟨h1,e,cs,cs3,he,h2,k3,k4.trans h4⟩
theorem SpoilO.imp {es ok es' ok':Nat→Prop}{w w1:World}(h:SpoilO es ok w w1)(h1:∀ e,es e→es' e)(h2:∀ g,g<w.heap.size→ok g→ok' g):SpoilO es' ok' w w1:=
  ⟨h.os,h.tape,h.output,h.size,fun g hg=>(h.k g hg).imp_right fun⟨a,e,cs,cs',he,r⟩=>⟨h2 g hg a,e,cs,cs',h1 e he,r⟩⟩
theorem SpoilO.blk {es ok:Nat→Prop}{w w1:World}(h:SpoilO es ok w w1){g t:Nat}{cs:Array Value}(hb:RX.Blk w g t cs):∃ cs',RX.Blk w1 g t cs'∧cs'.size=cs.size:=by
  rcases h.k g (Blk.lt hb)with h1|⟨_,e,cs1,cs',_,h2,h3,h4⟩
  · exact⟨cs,h1.trans hb,rfl⟩
  · have e0:some (Obj.cells cs1 e (0,0))=some (Obj.cells cs t (0,0)):=(show w.heap[g]?=_ from h2).symm.trans hb
    injection e0 with e0
    injection e0 with e1 e3
    subst e1; subst e3
    exact⟨cs',h3,h4⟩
theorem SpoilO.other {es ok:Nat→Prop}{w w1:World}(h:SpoilO es ok w w1){g t:Nat}{cs:Array Value}(hb:RX.Blk w g t cs)(ht:¬es t):RX.Blk w1 g t cs:=by
  rcases h.k g (Blk.lt hb)with h1|⟨_,e,cs1,cs',he,h2,h3,h4⟩
  · exact h1.trans hb
  · have e0:some (Obj.cells cs1 e (0,0))=some (Obj.cells cs t (0,0)):=(show w.heap[g]?=_ from h2).symm.trans hb
    injection e0 with e0
    injection e0 with _ e3
    subst e3
    exact absurd he ht
theorem LiesO.below {e sz:Nat}{ok:Nat→Prop}{w w1:World}{B:Option Addr}{m c:Nat}(hb:Below w.heap.size w w1)(h:LiesO e sz ok w B m c):LiesO e sz ok w1 B m c:=by
  obtain⟨h1,h2,h⟩:=h
  refine⟨h1,h2,?_⟩
  rcases h with h|⟨g,cs,h,h3,h4,h5⟩
  · exact .inl h
  · exact .inr ⟨g,cs,h,h3,Blk.below h4 hb,h5⟩
theorem LiesO.imp {e sz:Nat}{ok ok':Nat→Prop}{w:World}{B:Option Addr}{m c:Nat}(h:LiesO e sz ok w B m c)(hi:∀ g,ok g→ok' g):LiesO e sz ok' w B m c:=by
  obtain⟨h1,h2,h⟩:=h
  refine⟨h1,h2,?_⟩
  rcases h with h|⟨g,cs,h,h3,h4,h5⟩
  · exact .inl h
  · exact .inr ⟨g,cs,h,hi g h3,h4,h5⟩
theorem LiesO.spoil {e sz:Nat}{ok es ok':Nat→Prop}{w w1:World}{B:Option Addr}{m c:Nat}(h:LiesO e sz ok w B m c)(hs:SpoilO es ok' w w1):LiesO e sz ok w1 B m c:=by
  obtain⟨h1,h2,h⟩:=h
  refine⟨h1,h2,?_⟩
  rcases h with h|⟨g,cs,h,h3,h4,h5⟩
  · exact .inl h
  · obtain⟨cs',h6,h7⟩:=hs.blk h4
    exact .inr ⟨g,cs',h,h3,h6,h7.trans h5⟩
theorem LiesO.of_R {α:Type}{d:Kd α}{e:Nat}{w:World}{base:Nat}{ok ok':Nat→Prop}{B:Option Addr}{m c:Nat}{xs:List α}(h:d.R e w base ok (.slice B m c) xs)(hok:∀ k,base≤k→ok k→k<w.heap.size→ok' k):LiesO e d.sz ok' w B m c:=by
  obtain⟨h0,inner,ho⟩:=h
  rcases ho.1.2 with ⟨h1,h2⟩|⟨g,cap,cur,he,hb,hh,hn,hm,hs,_⟩
  · injection h1 with a b c'
    subst a; subst b; subst c'
    exact⟨Nat.le_refl _,by decide,.inl ⟨rfl,rfl⟩⟩
  · injection he with a b c'
    subst a; subst b; subst c'
    exact⟨hn,hm,.inr ⟨g,cur,rfl,hok g hb (h0 g rfl) (Array.getElem?_eq_some_iff.1 hh).1,hh,hs⟩⟩
theorem LiesO.at {e sz:Nat}{ok:Nat→Prop}{w:World}{B:Option Addr}{m c:Nat}(h:LiesO e sz ok w B m c)(h0:0<m):∃ g cs,B=some ⟨g,0,none⟩∧ok g∧RX.Blk w g e cs∧m*sz≤cs.size:=by
  obtain⟨h1,_,h⟩:=h
  rcases h with ⟨_,h⟩|⟨g,cs,h,h3,h4,h5⟩
  · omega
  · exact⟨g,cs,h,h3,h4,by rw[h5]; exact Nat.mul_le_mul_right _ h1⟩
theorem run_append_liesO {P:Program}{w W:World}(t ty e:TypeId)(i:TypeInfo)(z:Value)(ht:P.underlying t=some (.slice e))(hi:P.info? e=some i)(hz:i.zero=some z)(hzs:z.cells.size=i.size)(hsz:0<i.size){ok:Nat→Prop}(hok:∀ g,W.heap.size≤g→ok g){B:Option Addr}{n c:Nat}(hL0:LiesO e i.size ok W B n c)(hW:Below W.heap.size W w)
    (a:Addr) (c':Nat) (news:List Value) (hl:news.length=i.size) (hnews:∀ j u,news[j]?=some u→w.cell? (a.add j)=some u) (h1:∀ u∈news,u.oneCell'=true) (hbytes:(n+1)*i.bytes≤140737488355328) (hn:n≤140737488355328):
    ∃ A1 c1 w',(Builtin.append_ #[t,t] ty #[.slice B n c,.slice (some a) 1 c']).run P w=.ok (.slice A1 (n+1) c1) w'∧WroteO e ok W w'∧LiesO e i.size ok w' A1 (n+1) c1:=by
  have hL:=hL0.below hW
  obtain⟨_,_,hL1⟩:=hL0
  obtain⟨hnc,hcm,hL⟩:=hL
  rcases hL with ⟨rfl,rfl⟩|⟨g,cur,rfl,hg,hb,hs⟩
  · obtain rfl:n=0:=by omega
    have hr:=run_append_nil (P:=P) w t ty e i z ht hi hz a 1 c' news (by omega) hnews (by omega) (by omega) (by omega)
    refine⟨_,_,_,hr,⟨none,?_,fun g hg=>by cases hg⟩,grownCap_ge w 1 0 e,grownCap_le_maxLen w 1 0 e (by decide),.inr ⟨_,_,rfl,hok _ hW.size,heap_alloc_new w.drew _,?_⟩⟩
    · exact⟨hW.os,hW.tape,hW.output,by have:=hW.size; simp; omega,fun k hk _=>(Below.heap_alloc w.drew _ k (Nat.lt_of_lt_of_le hk hW.size)).trans (hW.block k hk)⟩
    · rw[Array.size_append,size_zeroCells,hzs,List.size_toArray,hl]
      have:=grownCap_ge w 1 0 e
      obtain⟨q,hq⟩:=Nat.exists_eq_add_of_le this
      rw[hq,Nat.add_sub_cancel_left,Nat.add_mul,Nat.one_mul]
  · obtain⟨cur',hb0,hs0⟩:∃ cur',RX.Blk W g e cur'∧cur'.size=c*i.size:=by
      rcases hL1 with ⟨h,_⟩|⟨g',cur',he,_,hb0,hs0⟩
      · cases h
      · injection he with he
        injection he with he
        subst he
        exact⟨cur',hb0,hs0⟩
    by_cases hroom:n+1≤c
    · have hfit:n*i.size+news.length≤cur.size:=by
        rw[hl,hs,←Nat.succ_mul]
        exact Nat.mul_le_mul_right _ hroom
      have hr:=run_append_room (P:=P) w t ty e i ht hi g n c cur hb a 1 c' news (by omega) hnews h1 hroom hfit
      refine⟨_,_,_,hr,⟨some g,?_,fun k hk=>by
        injection hk with hk
        subst hk
        refine⟨hg,cur',_,hb0,setRow_heap w g cur _ e _ hb,?_⟩
        simp only[List.size_toArray,List.length_append,List.length_take,List.length_drop,Array.length_toList]
        omega⟩,hroom,hcm,.inr ⟨g,_,rfl,hg,setRow_heap w g cur _ e _ hb,?_⟩⟩
      · exact⟨hW.os,hW.tape,hW.output,by have:=hW.size; simp[World.setRow]; omega,fun k hk hne=>(setRow_other w g k _ (fun e=>hne (by rw[e]))).trans (hW.block k hk)⟩
      · simp only[List.size_toArray,List.length_append,List.length_take,List.length_drop,Array.length_toList]
        omega
    · have hms:n*i.size≤c*i.size:=Nat.mul_le_mul_right _ hnc
      have hr:=run_append_grow (P:=P) w t ty e i z ht hi hz ⟨g,0,none⟩ n c (cur.toList.take (n*i.size)) (by rw[List.length_take,Array.length_toList]; omega) (fun j u hu=>by
        have e2:(⟨g,0,none⟩:Addr).add j=⟨g,j,none⟩:=by unfold Addr.add; split<;>simp_all
        rw[e2,cell_of_row w g j cur e (0,0) hb]
        rw[List.getElem?_take]at hu
        split at hu
        · simpa using hu
        · cases hu) a 1 c' news (by omega) hnews (by omega) (by omega) (growslice_fits (by omega) hbytes)
      refine⟨_,_,_,hr,⟨none,?_,fun g hg=>by cases hg⟩,grownCap_ge w (n+1) c e,grownCap_le_maxLen w (n+1) c e (by unfold maxLen; omega),.inr ⟨_,_,rfl,hok _ hW.size,heap_alloc_new w.drew _,?_⟩⟩
      · exact⟨hW.os,hW.tape,hW.output,by have:=hW.size; simp; omega,fun k hk _=>(Below.heap_alloc w.drew _ k (Nat.lt_of_lt_of_le hk hW.size)).trans (hW.block k hk)⟩
      · rw[Array.size_append,Array.size_append,size_zeroCells,hzs,List.size_toArray,List.size_toArray,hl,List.length_take,Array.length_toList,Nat.min_eq_left (by omega)]
        have:=grownCap_ge w (n+1) c e
        obtain⟨q,hq⟩:=Nat.exists_eq_add_of_le this
        rw[hq,Nat.add_sub_cancel_left,Nat.add_mul,Nat.add_mul,Nat.one_mul]
theorem XL_appendLiesO {P:Program}{N:Nat}{ops:Array Oper}{qs:QS}{rest:List Oper}{o:Oper}{l:Slots}{W:World}{s x:Operand}{t:TypeId}(ho:o.op=.call { callee:=.builtin .append,args:=#[s,x],argTypes:=#[t,t] })(hg:gd ops l o=some true)(hd:okD N o.dst=true)(e:Nat)(z:Value)(size bytes:Nat)
    (ht:P.underlying t=some (.slice e)) (hinfo:(P.info? e).map (fun i=>(i.zero,i.size,i.bytes))=some (some z,size,bytes)) (hz:z.cells.size=size) (hs0:0<size)
    {B:Option Addr} {n c:Nat} {ok:Nat→Prop} (cs:List Value) (hv:evs l [s,x]=some [.slice B n c,.slice (some ⟨W.heap.size,0,none⟩) 1 1]) (hcs:cs.length=size) (h1:cs.all (·.oneCell')=true)
    (hok:∀ g,W.heap.size≤g→ok g) (hL:LiesO e size ok W B n c) (hl:(n+1)*bytes≤140737488355328) (hn0:n≤140737488355328)
    (hn:∀ A1 c1 w1,WroteO e ok W w1→LiesO e size ok w1 A1 (n+1) c1→XL P N ops rest qs (putS l o.dst (.slice A1 (n+1) c1)) w1):XL P N ops (o::rest) qs l (W.alloc (.cells cs.toArray e)):=by
  obtain⟨i0,hi0,hzz⟩:=Option.map_eq_some_iff.1 hinfo
  simp only[Prod.mk.injEq]at hzz
  obtain⟨hz0,hz1,hz2⟩:=hzz
  subst hz1
  subst hz2
  refine XL_law hd hg fun a ha=>?_
  have he:=evs_ok ha _ _ hv
  simp only[List.map_cons,List.map_nil,List.cons.injEq,and_true]at he
  refine wpList_plain rfl fun K hK=>?_
  obtain⟨A1,c1,w1,hr,hw,hL1⟩:=run_append_liesO (P:=P) (w:=W.alloc (.cells cs.toArray e)) t o.type e i0 z ht hi0 hz0 hz hs0 hok hL ((Below.refl _ W).alloc (Nat.le_refl _) _) ⟨W.heap.size,0,none⟩ 1 cs hcs
    (by simpa using World.news_of_block (cs:=cs.toArray) (t:=e) (fr:=(0,0)) (heap_alloc_new W (.cells cs.toArray e))) (fun u hu=>List.all_eq_true.1 h1 u hu) hl hn0
  unfold Oper.wp execOp
  simp only[ho,resolve,invoke,builtin,Sem.run_bind,Sem.run_pure,Result.andThen_ok,List.map_toArray,List.map_cons,List.map_nil,he.1,he.2,hr]
  exact hK _ _ (hn A1 c1 w1 hw hL1 _ (ha.putS hd _))
theorem XL_spoilO {P:Program}{N:Nat}{ops:Array Oper}{qs:QS}{rest:List Oper}{o:Oper}{l:Slots}{w:World}{t:TypeId}{p x:Operand}(ho:o.op=.store t p x)(hdn:o.dst=none)(hg:gd ops l o=some true)
    {g:Nat} {ok:Nat→Prop} {bt:TypeId} {cs:Array Value} {v:Value} {n:Nat} {ad:Addr} (had:ad=⟨g,0,none⟩) (hp:evs l [p,x]=some [.pointer (some (ad.add n)),v]) (hb:Blk w g bt cs) (hok:ok g) (vs:List Value)
    (hv:v.cells.toList=vs∧sizeP P t=some vs.length) (h1:vs.all (·.oneCell')=true) (hl:n+vs.length≤cs.size)
    (hn:∀ w1,WroteO bt ok w w1→XL P N ops rest qs l w1):XL P N ops (o::rest) qs l w:=
  XL_spoil ho hdn hg had hp hb vs hv h1 hl fun w1 cs' h2 h3 h4=>hn w1 ⟨some g,h2,fun k hk=>by injection hk with hk; subst hk; exact⟨hok,cs,cs',hb,h3,h4⟩⟩
section
variable {p e' e lo hi : Nat} {w w1 : World} {A : Option Addr} {n c i : Nat}
theorem setAll_get1 (cs:Array Value)(n k:Nat)(v:Value)(h:k≠n):(setAll cs n [v])[k]?=cs[k]?:=by
  show (cs.setIfInBounds n v)[k]?=_
  rw[Array.getElem?_setIfInBounds_ne (fun e=>h e.symm)]
theorem blk_cellsAt {g k:Nat}{cs:Array Value}{vs:List Value}{t:Nat}(h:CellsAt w ((⟨g,0,none⟩:Addr).add k) vs)(hb:RX.Blk w g t cs):∀ j u,vs[j]?=some u→cs[k+j]?=some u:=by
  intro j u hu
  have h1:=h j u hu
  have e2:(⟨g,0,none⟩:Addr).add (k+j)=⟨g,k+j,none⟩:=by unfold Addr.add; split<;>simp_all
  rw[add_add,e2]at h1
  rw[cell_of_row w g (k+j) cs t (0,0) hb]at h1
  exact h1
theorem cellsAt_blk {g k:Nat}{cs:Array Value}{vs:List Value}{t:Nat}(hb:RX.Blk w g t cs)(h:∀ j u,vs[j]?=some u→cs[k+j]?=some u):CellsAt w ((⟨g,0,none⟩:Addr).add k) vs:=by
  intro j u hu
  have e2:(⟨g,0,none⟩:Addr).add (k+j)=⟨g,k+j,none⟩:=by unfold Addr.add; split<;>simp_all
  rw[add_add,e2,cell_of_row w g (k+j) cs t (0,0) hb]
  exact h j u hu
end
theorem setAll_out :∀ (vs:List Value) (cs:Array Value) (n k:Nat),k<n∨n+vs.length≤k→(setAll cs n vs)[k]?=cs[k]?
  | [],_,_,_,_=>rfl
  | v::r,cs,n,k,h=>by
    show (setAll (cs.setIfInBounds n v) (n+1) r)[k]?=_
    rw[List.length_cons]at h
    rw[setAll_out r _ (n+1) k (by omega),Array.getElem?_setIfInBounds_ne (by omega)]
section
variable {e' e : Nat} {ok : Nat → Prop} {w w1 : World} {A : Option Addr} {n c i : Nat}
end
end Go.Proofs.YtgphmfnkeolbcaaGreatDoor.RX
set_option linter.unusedVariables false
set_option maxRecDepth 100000
namespace Go.Proofs.YtgphmfnkeolbcaaGreatDoor.RX
open Go Go.RowKit Go.Proofs.YtgphmfnkeolbcaaGreatDoor Go.Proofs.YtgphmfnkeolbcaaGreatDoorW.PrintWords
def MixK {α:Type}(d:Kd α)(z:α)(e B:Nat)(W0 w:World)(A:Option Addr)(n c:Nat)(xs:List α):Prop:=
  ∃ vs,(kRaw d.sz).R e w B (OkFrom B) (.slice A n c) vs∧vs.length=xs.length∧∀ i,i<xs.length→d.K W0 (xs.getD i z) (vs.getD i [])
section
variable {α : Type} {d : Kd α} {z : α} {e B : Nat} {W0 W w w1 : World} {A A' : Option Addr} {n c m c' : Nat} {xs ys : List α}
theorem MixK.nil {b2:Nat}(h:d.R e w b2 (OkFrom b2) (.slice A n c) [])(hb:B≤b2):MixK d z e B W0 w A n c []:=by
  obtain⟨vs,h1,h2,_⟩:=Kd.R_raw2 z h
  exact⟨vs,Kd.R_low h1 hb,h2,fun i hi=>absurd hi (Nat.not_lt_zero _)⟩
theorem MixK.len (h:MixK d z e B W0 w A n c xs):n=xs.length∧n≤c:=by
  obtain⟨vs,hR,hl,_⟩:=h
  obtain⟨h1,h2⟩:=Kd.R_len hR
  exact⟨by omega,h2⟩
theorem MixK.below (h:MixK d z e B W0 w A n c xs)(hb:Below w.heap.size w w1):MixK d z e B W0 w1 A n c xs:=by
  obtain⟨vs,hR,hl,hK⟩:=h
  exact⟨vs,Kd.R_below hR hb,hl,hK⟩
theorem MixK.C (h:MixK d z e B W0 w A n c xs)(hB:Below W0.heap.size W0 w):d.C w A n xs:=by
  obtain⟨h1,h2⟩:=h.len
  obtain⟨vs,hR,hl,hK⟩:=h
  exact Kd.C_ofRaw z (Kd.R_C hR) h1.symm fun i hi=>d.K_below hB (hK i (by omega))
theorem MixK.at (h:MixK d z e B W0 w A n c xs){i:Int}(h0:0≤i)(h1:i<n):∃ ad cs,A=some ad∧CellsAt w (ad.add (i.toNat*d.sz)) cs∧d.K W0 (xs.getD i.toNat z) cs:=by
  obtain⟨hl1,_⟩:=h.len
  obtain⟨vs,hR,hl,hK⟩:=h
  obtain⟨ad,cs,e1,hM,hc⟩:=Kd.R_at [] hR h0 h1
  obtain⟨rfl,_⟩:=(kRaw d.sz).K_of_M hM
  exact⟨ad,_,e1,hc,hK _ (by omega)⟩
theorem C_atK (h:d.C W0 A n xs)(hB:Below W0.heap.size W0 w){i:Int}(h0:0≤i)(h1:i<n):∃ ad cs,A=some ad∧CellsAt w (ad.add (i.toNat*d.sz)) cs∧d.K W0 (xs.getD i.toNat z) cs:=by
  obtain⟨ad,cs,e1,hK,hc⟩:=Kd.atC h z h0 h1
  exact⟨ad,cs,e1,cells_below hc hB,hK⟩
theorem XL_appendMixK {P:Program}{N:Nat}{ops:Array Oper}{qs:QS}{rest:List Oper}{o:Oper}{l:Slots}{s x:Operand}{t:TypeId}(z:α)(ho:o.op=.call { callee:=.builtin .append,args:=#[s,x],argTypes:=#[t,t] })(hg:gd ops l o=some true)(hd:okD N o.dst=true)(e:Nat)(zv:Value)(bytes:Nat)
    (ht:P.underlying t=some (.slice e)) (hinfo:(P.info? e).map (fun i=>(i.zero,i.size,i.bytes))=some (some zv,d.sz,bytes)) (hz:zv.cells.size=d.sz) (hs0:0<d.sz) (hb0:0<bytes)
    (xs ys:List α) (vs2:List (List Value)) (hv:evs l [s,x]=some [.slice A n c,.slice A' m c'])
    (HO:MixK d z e B W0 W A n c xs) (HC:(kRaw d.sz).C W A' m vs2) (hm:ys.length=m) (hK:∀ i,i<m→d.K W0 (ys.getD i z) (vs2.getD i [])) (hbase:B≤W.heap.size) (hl:(xs.length+m)*bytes≤140737488355328)
    (hn:∀ A1 c1 w1,MixK d z e B W0 w1 A1 (xs++ys).length c1 (xs++ys)→W.grownBy w1 (A.map (·.block))→(∀ k,A.map (·.block)=some k→B≤k)→XL P N ops rest qs (putS l o.dst (.slice A1 (xs++ys).length c1)) w1):XL P N ops (o::rest) qs l W:=by
  obtain⟨vs,hR,hlv,hE⟩:=HO
  have hlen2:vs2.length=m:=HC.1
  refine XL_appendAll (kRaw d.sz) ho hg hd B e zv bytes ht hinfo hz hs0 hb0 vs vs2 hv hR HC (fun _ _ h=>h) hbase (by rw[hlv]; exact hl) ?_
  intro A1 c1 w1 hr hc hgr hle hat
  have hlen:(vs++vs2).length=(xs++ys).length:=by simp[hlv,hlen2,hm]
  rw[hlen]at hr ⊢
  refine hn A1 c1 w1 ⟨vs++vs2,hr,hlen,fun i hi=>?_⟩ hgr hle
  rw[List.getD_eq_getElem?_getD,List.getD_eq_getElem?_getD]
  by_cases hx:i<xs.length
  · rw[List.getElem?_append_left hx,List.getElem?_append_left (by omega),←List.getD_eq_getElem?_getD,←List.getD_eq_getElem?_getD]
    exact hE i hx
  · rw[List.getElem?_append_right (by omega),List.getElem?_append_right (by omega),hlv,←List.getD_eq_getElem?_getD,←List.getD_eq_getElem?_getD]
    rw[List.length_append]at hi
    exact hK _ (by omega)
end
theorem MixK.low {α:Type}{d:Kd α}{z:α}{e B B2:Nat}{W0 w:World}{A:Option Addr}{n c:Nat}{xs:List α}(h:MixK d z e B2 W0 w A n c xs)(hb:B≤B2):MixK d z e B W0 w A n c xs:=by
  obtain⟨vs,hR,h2,h3⟩:=h
  exact⟨vs,Kd.R_low hR hb,h2,h3⟩
theorem MixK.lt {α:Type}{d:Kd α}{z:α}{e B:Nat}{W0 w:World}{A:Option Addr}{n c:Nat}{xs:List α}(h:MixK d z e B W0 w A n c xs):∀ k,A.map (·.block)=some k→k<w.heap.size:=by
  obtain⟨vs,hR,_⟩:=h
  exact Kd.R_lt hR
theorem Blk.off {w w1:World}{g:Nat}{t:TypeId}{cs:Array Value}{r:Option Nat}(h:Blk w g t cs)(k:w.grownBy w1 r)(hn:∀ x,r=some x→x≠g):Blk w1 g t cs:=(k.block g h.lt (fun e=>hn g e.symm rfl)).trans h
theorem rawL1 {n:Nat}{w:World}{base:Nat}{ok:Nat→Prop}(cs:List Value)(hl:cs.length=n)(h1:(cs.all fun u=>u.oneCell')=true):Reps ((kRaw n).M w base ok) n [cs] cs:=by
  have:=(Reps.none ((kRaw n).M w base ok) n).snoc (p:=cs) (c:=cs) ⟨rfl,hl,fun u hu=>List.all_eq_true.1 h1 u hu⟩ hl
  simpa using this
theorem MixK.op {e B:Nat}{W0 w:World}{A:Option Addr}{n c:Nat}{xs:List OpA}(h:MixK kOp op0 e B W0 w A n c xs){i:Int}(h0:0≤i)(h1:i<n):∃ ad B c,A=some ad∧CellsAt w (ad.add (i.toNat*7)) (opV (xs.getD i.toNat op0) B c)∧(xs.getD i.toNat op0).attrs.length≤c∧kAttr.C W0 B (xs.getD i.toNat op0).attrs.length (xs.getD i.toNat op0).attrs:=by
  obtain⟨ad,cs,e1,hc,hK⟩:=h.at h0 h1
  obtain⟨B,c,rfl,hl,hC⟩:=kOp_K hK
  exact⟨ad,B,c,e1,hc,hl,hC⟩
end Go.Proofs.YtgphmfnkeolbcaaGreatDoor.RX

set_option linter.unusedVariables false
set_option maxRecDepth 100000
namespace Go.Proofs.YtgphmfnkeolbcaaGreatDoor.RX
open Go Go.RowKit Go.Proofs.YtgphmfnkeolbcaaGreatDoor Go.Proofs.YtgphmfnkeolbcaaGreatDoorW.PrintWords
def setT (x:OpA)(t:ByteArray):OpA:=⟨x.kind,t,x.vk,x.vn,x.vt,x.count,x.attrs⟩
def setN (x:OpA)(n:Int):OpA:=⟨x.kind,x.text,x.vk,x.vn,x.vt,n,x.attrs⟩
section
variable {e B : Nat} {W0 w w1 : World} {A : Option Addr} {n c : Nat} {xs : List OpA}
theorem MixK.set1 {vs:List (List Value)}{i:Nat}{x':OpA}{cs:List Value}(h:MixK kOp op0 e B W0 w A n c xs)(hl:vs.length=xs.length)(hK:∀ i,i<xs.length→kOp.K W0 (xs.getD i op0) (vs.getD i []))(hR:(kRaw 7).R e w1 B (OkFrom B) (.slice A n c) (vs.set i cs))(hx:kOp.K W0 x' cs):MixK kOp op0 e B W0 w1 A n c (xs.set i x'):=by
  refine⟨vs.set i cs,hR,by rw[List.length_set,List.length_set,hl],fun j hj=>?_⟩
  rw[List.length_set]at hj
  rw[List.getD_eq_getElem?_getD,List.getD_eq_getElem?_getD,List.getElem?_set,List.getElem?_set]
  by_cases e1:i=j
  · subst e1
    rw[if_pos rfl,if_pos rfl,if_pos hj,if_pos (by omega)]
    exact hx
  · rw[if_neg e1,if_neg e1,←List.getD_eq_getElem?_getD,←List.getD_eq_getElem?_getD]
    exact hK j hj
end
variable {P : Program} {N : Nat} {ops : Array Oper} {qs : QS} {rest : List Oper} {o : Oper} {l : Slots}
theorem XL_mixText {e B:Nat}{W0 w:World}{A:Option Addr}{n c:Nat}{xs:List OpA}{t:TypeId}{p x:Operand}(ho:o.op=.store t p x)(hdn:o.dst=none)(hg:gd ops l o=some true){ad:Addr}{i:Int}(s:ByteArray)(hv:evs l [p,x]=some [.pointer (some ((ad.add (i.toNat*7)).add 1)),.string s])(hA:A=some ad)
    (h:MixK kOp op0 e B W0 w A n c xs) (h0:0≤i) (hi:i<n) (ht:sizeP P t=some 1)
    (hn:∀ w1,MixK kOp op0 e B W0 w1 A n c (xs.set i.toNat (setT (xs.getD i.toNat op0) s))→w.grownBy w1 (A.map (·.block))→(∀ k,A.map (·.block)=some k→B≤k)→XL P N ops rest qs l w1):XL P N ops (o::rest) qs l w:=by
  obtain⟨hl1,_⟩:=h.len
  obtain⟨vs,hR,hl,hK⟩:=h
  refine XL_rowpart 7 ho hdn hg B e 1 vs hv hA hR h0 hi [.string s] ⟨rfl,rfl⟩ (by simp only[List.length_singleton]; omega) ht fun w1 h1 h2 h3=>hn w1 (MixK.set1 ⟨vs,hR,hl,hK⟩ hl hK h1 ?_) h2 h3
  obtain⟨A',c',e1,h4,h5⟩:=kOp_K (hK i.toNat (by omega))
  rw[e1]
  exact kOp_K_of (x:=setT (xs.getD i.toNat op0) s) h4 h5
theorem XL_mixCount {e B:Nat}{W0 w:World}{A:Option Addr}{n c:Nat}{xs:List OpA}{t:TypeId}{p x:Operand}(ho:o.op=.store t p x)(hdn:o.dst=none)(hg:gd ops l o=some true){ad:Addr}{i:Int}(s:Int)(hv:evs l [p,x]=some [.pointer (some ((ad.add (i.toNat*7)).add 5)),.int .i64 s])(hA:A=some ad)
    (h:MixK kOp op0 e B W0 w A n c xs) (h0:0≤i) (hi:i<n) (ht:sizeP P t=some 1)
    (hn:∀ w1,MixK kOp op0 e B W0 w1 A n c (xs.set i.toNat (setN (xs.getD i.toNat op0) s))→w.grownBy w1 (A.map (·.block))→(∀ k,A.map (·.block)=some k→B≤k)→XL P N ops rest qs l w1):XL P N ops (o::rest) qs l w:=by
  obtain⟨hl1,_⟩:=h.len
  obtain⟨vs,hR,hl,hK⟩:=h
  refine XL_rowpart 7 ho hdn hg B e 5 vs hv hA hR h0 hi [.int .i64 s] ⟨rfl,rfl⟩ (by simp only[List.length_singleton]; omega) ht fun w1 h1 h2 h3=>hn w1 (MixK.set1 ⟨vs,hR,hl,hK⟩ hl hK h1 ?_) h2 h3
  obtain⟨A',c',e1,h4,h5⟩:=kOp_K (hK i.toNat (by omega))
  rw[e1]
  exact kOp_K_of (x:=setN (xs.getD i.toNat op0) s) h4 h5
section
variable {α : Type} {d : Kd α} {z : α} {e B : Nat} {W0 W w w1 : World} {A A' : Option Addr} {n c m c' : Nat} {xs ys : List α}
theorem XL_appendMixH {s x:Operand}{t:TypeId}(z:α)(ho:o.op=.call { callee:=.builtin .append,args:=#[s,x],argTypes:=#[t,t] })(hg:gd ops l o=some true)(hd:okD N o.dst=true)(e:Nat)(zv:Value)(bytes:Nat)
    (ht:P.underlying t=some (.slice e)) (hinfo:(P.info? e).map (fun i=>(i.zero,i.size,i.bytes))=some (some zv,d.sz,bytes)) (hz:zv.cells.size=d.sz) (hs0:0<d.sz) (hb0:0<bytes)
    (xs ys:List α) (vs2:List (List Value)) (hv:evs l [s,x]=some [.slice A n c,.slice A' m c'])
    (HO:MixK d z e B W0 W A n c xs) (HC:(kRaw d.sz).C W A' m vs2) (hm:ys.length=m) (hK:∀ i,i<m→d.K W0 (ys.getD i z) (vs2.getD i [])) (hbase:B≤W.heap.size) (hl:(xs.length+m)*bytes≤140737488355328)
    (hn:∀ A1 c1 w1,MixK d z e B W0 w1 A1 (xs++ys).length c1 (xs++ys)→W.grownBy w1 (A.map (·.block))→(∀ k,A.map (·.block)=some k→B≤k)→(A1.map (·.block)=A.map (·.block)∨∃ b,A1.map (·.block)=some b∧W.heap.size≤b)→XL P N ops rest qs (putS l o.dst (.slice A1 (xs++ys).length c1)) w1):XL P N ops (o::rest) qs l W:=by
  obtain⟨vs,hR,hlv,hE⟩:=HO
  have hlen2:vs2.length=m:=HC.1
  refine XL_appendAll (kRaw d.sz) ho hg hd B e zv bytes ht hinfo hz hs0 hb0 vs vs2 hv hR HC (fun _ _ h=>h) hbase (by rw[hlv]; exact hl) ?_
  intro A1 c1 w1 hr hc hgr hle hat
  have hlen:(vs++vs2).length=(xs++ys).length:=by simp[hlv,hlen2,hm]
  rw[hlen]at hr ⊢
  refine hn A1 c1 w1 ⟨vs++vs2,hr,hlen,fun i hi=>?_⟩ hgr hle hat
  rw[List.getD_eq_getElem?_getD,List.getD_eq_getElem?_getD]
  by_cases hx:i<xs.length
  · rw[List.getElem?_append_left hx,List.getElem?_append_left (by omega),←List.getD_eq_getElem?_getD,←List.getD_eq_getElem?_getD]
    exact hE i hx
  · rw[List.getElem?_append_right (by omega),List.getElem?_append_right (by omega),hlv,←List.getD_eq_getElem?_getD,←List.getD_eq_getElem?_getD]
    rw[List.length_append]at hi
    exact hK _ (by omega)
end
end Go.Proofs.YtgphmfnkeolbcaaGreatDoor.RX
