import Derived.Test.YtgphmfnkeolbcaaGreatDoorClp
import Derived.Test.YtgphmfnkeolbcaaGreatDoorRow
import Derived.Test.YtgphmfnkeolbcaaGreatDoorIn
import Derived.Test.YtgphmfnkeolbcaaGreatDoorGl
/- Lines: as elements; what a document's lines are, cell by cell. No condition. -/
set_option linter.unusedVariables false
set_option linter.unusedSimpArgs false
set_option maxRecDepth 100000
namespace Go.Proofs.YtgphmfnkeolbcaaGreatDoor
open Go Go.RowKit Go.Proofs.YtgphmfnkeolbcaaGreatDoorW.PrintWords RX
structure LineA where
  from_:Int
  len:Int
  attrs:List At
  text:ByteArray
def line0 :LineA:=⟨0,0,[],ByteArray.empty⟩
def LineA.tup (o:LineA):Int×Int×List At×ByteArray:=(o.from_,o.len,o.attrs,o.text)
def kLine :Kd LineA:=Kd.comap LineA.tup (Kd.pair (Kd.int .i64) (Kd.pair (Kd.int .i64) (Kd.pair kAttrs Kd.string)))
def lineV (x:LineA)(A:Option Addr)(c:Nat):List Value:=[.int .i64 x.from_,.int .i64 x.len,.slice A x.attrs.length c,.string x.text]
theorem kLine_K {w:World}{x:LineA}{cs:List Value}(h:kLine.K w x cs):∃ A c,cs=lineV x A c∧x.attrs.length≤c∧kAttr.C w A x.attrs.length x.attrs:=by
  obtain⟨_,_,rfl,rfl,_,_,rfl,rfl,_,_,rfl,⟨A,c,rfl,hl,hC⟩,rfl⟩:=h
  exact⟨A,c,rfl,hl,hC⟩
theorem kLine_K_of {w:World}{x:LineA}{A:Option Addr}{c:Nat}(hl:x.attrs.length≤c)(hC:kAttr.C w A x.attrs.length x.attrs):kLine.K w x (lineV x A c):=
  ⟨[.int .i64 x.from_],_,rfl,rfl,[.int .i64 x.len],_,rfl,rfl,[.slice A x.attrs.length c],[.string x.text],rfl,⟨A,c,rfl,hl,hC⟩,rfl⟩
theorem RX.Kd.atLine {w:World}{A:Option Addr}{n:Nat}{xs:List LineA}(h:kLine.C w A n xs){i:Int}(h0:0≤i)(h1:i<n):∃ ad B c,A=some ad∧CellsAt w (ad.add (i.toNat*4)) (lineV (xs.getD i.toNat line0) B c)∧(xs.getD i.toNat line0).attrs.length≤c∧kAttr.C w B (xs.getD i.toNat line0).attrs.length (xs.getD i.toNat line0).attrs:=by
  obtain⟨ad,cs,e,hK,hc⟩:=Kd.atC h line0 h0 h1
  obtain⟨B,c,rfl,hl,hC⟩:=kLine_K hK
  exact⟨ad,B,c,e,hc,hl,hC⟩
theorem kLine_M {w:World}{base:Nat}{ok:Nat→Prop}{x:LineA}{B:Option Addr}{c:Nat}(h:kAttrs.M w base ok x.attrs [.slice B x.attrs.length c]):kLine.M w base ok x (lineV x B c):=
  ⟨[.int .i64 x.from_],_,rfl,rfl,[.int .i64 x.len],_,rfl,rfl,[.slice B x.attrs.length c],[.string x.text],rfl,h,rfl⟩
theorem kLine_M_slice {w:World}{base:Nat}{ok:Nat→Prop}{x:LineA}{cs:List Value}(h:kLine.M w base ok x cs):∃ B c,cs=lineV x B c∧x.attrs.length≤c∧kAttr.R 57 w base ok (.slice B x.attrs.length c) x.attrs:=by
  obtain⟨_,_,rfl,rfl,_,_,rfl,rfl,_,_,rfl,⟨v,rfl,hR⟩,rfl⟩:=h
  obtain⟨A,c,rfl,hl,_⟩:=Kd.R_reads hR
  exact⟨A,c,rfl,hl,hR⟩
theorem repsLine0 {w:World}{base:Nat}{ok:Nat→Prop}:Reps (kLine.M w base ok) 4 [] []:=Reps.none _ _
def letL (c:CellA):Int:=if c.rune<0 then 65532 else c.rune
abbrev LSt :=List LineA×List Int×Nat×Nat
def lnStep (s:LSt)(c:CellA):LSt:=if c.rune=10 then (s.1++[⟨(s.2.2.1:Int),(s.2.1.length:Int),c.attrs,runesBytes s.2.1⟩],[],s.2.2.2+1,s.2.2.2+1)else (s.1,s.2.1++[letL c],s.2.2.1,s.2.2.2+1)
def lnRun (cs:List CellA):LSt:=cs.foldl lnStep ([],[],0,0)
theorem lnRun_snoc (cs:List CellA)(c:CellA):lnRun (cs++[c])=lnStep (lnRun cs) c:=by unfold lnRun; rw[List.foldl_append]; rfl
theorem lnRun_nl {cs:List CellA}{c:CellA}(h:c.rune=10):lnRun (cs++[c])=((lnRun cs).1++[⟨((lnRun cs).2.2.1:Int),((lnRun cs).2.1.length:Int),c.attrs,runesBytes (lnRun cs).2.1⟩],[],(lnRun cs).2.2.2+1,(lnRun cs).2.2.2+1):=by rw[lnRun_snoc]; exact if_pos h
theorem lnRun_tx {cs:List CellA}{c:CellA}(h:¬c.rune=10):lnRun (cs++[c])=((lnRun cs).1,(lnRun cs).2.1++[letL c],(lnRun cs).2.2.1,(lnRun cs).2.2.2+1):=by rw[lnRun_snoc]; exact if_neg h
theorem lnRun_inv :∀ cs:List CellA,(lnRun cs).2.2.2=cs.length∧(lnRun cs).2.2.1+(lnRun cs).2.1.length=cs.length∧(lnRun cs).2.1=(cs.drop (lnRun cs).2.2.1).map letL∧(lnRun cs).1.length≤cs.length:=by
  refine B.snoc_ind ⟨rfl,rfl,rfl,Nat.le_refl _⟩ ?_
  intro cs c ⟨h1,h2,h3,h4⟩
  by_cases hc:c.rune=10
  · rw[lnRun_nl hc]
    refine⟨?_,?_,?_,?_⟩
    · show (lnRun cs).2.2.2+1=_; rw[h1,List.length_append]; rfl
    · show (lnRun cs).2.2.2+1+0=_; rw[h1,List.length_append]; rfl
    · show ([]:List Int)=((cs++[c]).drop ((lnRun cs).2.2.2+1)).map letL
      rw[h1,List.drop_of_length_le (by rw[List.length_append]; exact Nat.le_refl _)]; rfl
    · show ((lnRun cs).1++[_]).length≤_
      rw[List.length_append,List.length_append]; simp only[List.length_singleton]; omega
  · rw[lnRun_tx hc]
    refine⟨?_,?_,?_,?_⟩
    · show (lnRun cs).2.2.2+1=_; rw[h1,List.length_append]; rfl
    · show (lnRun cs).2.2.1+((lnRun cs).2.1++[letL c]).length=_
      rw[List.length_append,List.length_append,List.length_singleton,List.length_singleton]; omega
    · show (lnRun cs).2.1++[letL c]=((cs++[c]).drop (lnRun cs).2.2.1).map letL
      rw[List.drop_append_of_le_length (by omega),List.map_append,←h3]; rfl
    · show (lnRun cs).1.length≤_
      rw[List.length_append]; omega
def lnEnds (cs:List CellA):Bool:=decide (0<(lnRun cs).1.length)&&decide ((lnRun cs).2.1.length=0)
theorem lnEnds_nil :lnEnds []=false:=rfl
theorem lnEnds_snoc (cs:List CellA)(c:CellA):lnEnds (cs++[c])=decide (c.rune=10):=by
  unfold lnEnds
  by_cases hc:c.rune=10
  · rw[lnRun_nl hc,decide_eq_true hc]
    show (decide (0<((lnRun cs).1++[_]).length)&&decide (([]:List Int).length=0))=true
    rw[List.length_append]; simp
  · rw[lnRun_tx hc,decide_eq_false hc]
    show (decide (0<(lnRun cs).1.length)&&decide (((lnRun cs).2.1++[letL c]).length=0))=false
    rw[List.length_append]; simp
theorem lnEnds_iff (cs:List CellA):lnEnds cs=true↔0<cs.length∧(cs.getD (cs.length-1) cell0).rune=10:=by
  rcases B.snoc_cases cs with rfl|⟨ys,a,rfl⟩
  · rw[lnEnds_nil]; simp
  · rw[lnEnds_snoc,decide_eq_true_eq,List.length_append,List.length_singleton,Nat.add_sub_cancel]
    have e:(ys++[a]).getD ys.length cell0=a:=by rw[List.getD_eq_getElem?_getD,List.getElem?_append_right (Nat.le_refl _),Nat.sub_self]; rfl
    rw[e]
    exact⟨fun h=>⟨by omega,h⟩,fun h=>h.2⟩
def lnChain (at0_:Int):List LineA→Prop
  | []=>True
  | l::r=>l.from_=at0_∧0≤l.len∧lnChain (at0_+l.len+1) r
def lnEnd (at0_:Int):List LineA→Int
  | []=>at0_
  | l::r=>lnEnd (at0_+l.len+1) r
theorem lnChain_snoc :∀ (ls:List LineA) (k:Int) (l:LineA),lnChain k (ls++[l])↔lnChain k ls∧l.from_=lnEnd k ls∧0≤l.len
  | [],k,l=>by simp[lnChain,lnEnd]
  | a::r,k,l=>by
    show (a.from_=k∧0≤a.len∧lnChain (k+a.len+1) (r++[l]))↔(a.from_=k∧0≤a.len∧lnChain (k+a.len+1) r)∧l.from_=lnEnd (k+a.len+1) r∧0≤l.len
    rw[lnChain_snoc r]
    constructor
    · rintro⟨h1,h2,h3,h4⟩; exact⟨⟨h1,h2,h3⟩,h4⟩
    · rintro⟨⟨h1,h2,h3⟩,h4⟩; exact⟨h1,h2,h3,h4⟩
theorem lnEnd_snoc :∀ (ls:List LineA) (k:Int) (l:LineA),lnEnd k (ls++[l])=lnEnd k ls+l.len+1
  | [],k,l=>rfl
  | a::r,k,l=>lnEnd_snoc r _ l
theorem lnRun_chain :∀ cs:List CellA,lnChain 0 (lnRun cs).1∧lnEnd 0 (lnRun cs).1=((lnRun cs).2.2.1:Int):=by
  refine B.snoc_ind ⟨trivial,rfl⟩ ?_
  intro cs c ⟨h1,h2⟩
  obtain⟨i1,i2,_,_⟩:=lnRun_inv cs
  by_cases hc:c.rune=10
  · rw[lnRun_nl hc]
    refine⟨(lnChain_snoc _ _ _).2 ⟨h1,h2.symm,Int.natCast_nonneg _⟩,?_⟩
    show lnEnd 0 ((lnRun cs).1++[_])=_
    rw[lnEnd_snoc,h2]
    show ((lnRun cs).2.2.1:Int)+((lnRun cs).2.1.length:Int)+1=(((lnRun cs).2.2.2+1:Nat):Int)
    omega
  · rw[lnRun_tx hc]; exact⟨h1,h2⟩
theorem lnChain_at :∀ (ls:List LineA) (k:Int),lnChain k ls→∀ i,i<ls.length→k≤(ls.getD i line0).from_∧0≤(ls.getD i line0).len∧(ls.getD i line0).from_+(ls.getD i line0).len<lnEnd k ls∧(i=0→(ls.getD i line0).from_=k)∧(∀ j,j+1=i→(ls.getD i line0).from_=(ls.getD j line0).from_+(ls.getD j line0).len+1)
  | l::r,k,h,0,_=>by
    obtain⟨h1,h2,h3⟩:=h
    have he:∀ (r:List LineA) (k:Int),lnChain k r→k≤lnEnd k r:=by
      intro r
      induction r with
      | nil=>intro k _; exact Int.le_refl _
      | cons a r ih=>intro k h; have:=ih _ h.2.2; have:=h.2.1; show k≤lnEnd (k+a.len+1) r; omega
    have:=he r _ h3
    refine⟨by show k≤l.from_; omega,h2,?_,fun _=>h1,fun j hj=>by omega⟩
    show l.from_+l.len<lnEnd (k+l.len+1) r
    omega
  | l::r,k,h,i+1,hi=>by
    obtain⟨h1,h2,h3⟩:=h
    obtain⟨a,b,c,d,e⟩:=lnChain_at r _ h3 i (by simpa using hi)
    refine⟨by show k≤(r.getD i line0).from_; omega,b,c,fun h=>by omega,fun j hj=>?_⟩
    obtain rfl:j=i:=by omega
    cases j with
    | zero=>show (r.getD 0 line0).from_=l.from_+l.len+1; rw[d rfl]; omega
    | succ j=>exact e j rfl
def lnFind (p:Int):List LineA→Nat
  | []=>0
  | l::r=>if p≤l.from_+l.len then 0 else lnFind p r+1
theorem lnFind_le (p:Int):∀ ls,lnFind p ls≤ls.length
  | []=>Nat.le_refl _
  | l::r=>by have:=lnFind_le p r; unfold lnFind; split<;>simp<;>omega
theorem lnFind_at (p:Int):∀ ls:List LineA,lnFind p ls<ls.length→p≤(ls.getD (lnFind p ls) line0).from_+(ls.getD (lnFind p ls) line0).len
  | [],h=>absurd h (Nat.not_lt_zero _)
  | l::r,h=>by
    unfold lnFind at h ⊢
    by_cases hp:p≤l.from_+l.len
    · rw[if_pos hp]; exact hp
    · rw[if_neg hp]at h ⊢
      exact lnFind_at p r (by simpa using h)
theorem lnFind_of {p:Int}:∀ {ls:List LineA} {i:Nat},i≤ls.length→(∀ j,j<i→¬p≤(ls.getD j line0).from_+(ls.getD j line0).len)→(i<ls.length→p≤(ls.getD i line0).from_+(ls.getD i line0).len)→lnFind p ls=i
  | [], i, hi, _, _ => by have:i=0:=by simpa using hi
                          rw[this]; rfl
  | l::r,0,_,_,h=>if_pos (h (by simp))
  | l::r,i+1,hi,h0,h1=>by
    have h00:¬p≤l.from_+l.len:=h0 0 (by omega)
    unfold lnFind
    rw[if_neg h00,lnFind_of (ls:=r) (i:=i) (by simpa using hi) (fun j hj=>h0 (j+1) (by omega)) (fun h=>h1 (by simpa using h))]
abbrev LSE :=List LineA×List Int×Int
def lnStepE (s:LSE)(x:ElA):LSE:=if x.2.1.rune=10 then (s.1++[⟨s.2.2,(s.2.1.length:Int),x.2.1.attrs,runesBytes s.2.1⟩],[],IntKind.i64.wrap (x.1+1))else (s.1,s.2.1++[letL x.2.1],s.2.2)
def lnRunE (pre:List ElA):LSE:=pre.foldl lnStepE ([],[],0)
theorem lnRunE_snoc (pre:List ElA)(x:ElA):lnRunE (pre++[x])=lnStepE (lnRunE pre) x:=by unfold lnRunE; rw[List.foldl_append]; rfl
theorem lnRunE_nl {pre:List ElA}{x:ElA}(h:x.2.1.rune=10):lnRunE (pre++[x])=((lnRunE pre).1++[⟨(lnRunE pre).2.2,((lnRunE pre).2.1.length:Int),x.2.1.attrs,runesBytes (lnRunE pre).2.1⟩],[],IntKind.i64.wrap (x.1+1)):=by rw[lnRunE_snoc]; exact if_pos h
theorem lnRunE_tx {pre:List ElA}{x:ElA}(h:¬x.2.1.rune=10):lnRunE (pre++[x])=((lnRunE pre).1,(lnRunE pre).2.1++[letL x.2.1],(lnRunE pre).2.2):=by rw[lnRunE_snoc]; exact if_neg h
theorem lnRunE_len :∀ pre:List ElA,(lnRunE pre).1.length≤pre.length∧(lnRunE pre).2.1.length≤pre.length:=by
  refine B.snoc_ind ⟨Nat.le_refl _,Nat.le_refl _⟩ ?_
  intro pre x ⟨h1,h2⟩
  rw[List.length_append,List.length_singleton]
  by_cases hc:x.2.1.rune=10
  · rw[lnRunE_nl hc]
    refine⟨?_,Nat.zero_le _⟩
    show ((lnRunE pre).1++[_]).length≤_
    rw[List.length_append,List.length_singleton]; omega
  · rw[lnRunE_tx hc]
    refine⟨by show (lnRunE pre).1.length≤_; omega,?_⟩
    show ((lnRunE pre).2.1++[_]).length≤_
    rw[List.length_append,List.length_singleton]; omega
theorem EOK.pre {L:List CellA}{pre:List ElA}{x:ElA}(h:EOK L (pre++[x])):EOK L pre:=by
  obtain⟨h1,h2⟩:=h
  rw[List.length_append,List.length_singleton]at h1 h2
  refine⟨by omega,fun t ht=>?_⟩
  have h3:=h2 t (by omega)
  have e:(pre++[x]).getD t el0=pre.getD t el0:=by rw[List.getD_eq_getElem?_getD,List.getElem?_append_left ht,←List.getD_eq_getElem?_getD]
  rwa [e]at h3
theorem lnRunE_ok {L:List CellA}(hL:L.length≤1000000000):∀ pre:List ElA,EOK L pre→lnRunE pre=((lnRun (L.take pre.length)).1,(lnRun (L.take pre.length)).2.1,((lnRun (L.take pre.length)).2.2.1:Int)):=by
  refine B.snoc_ind (fun _=>rfl) ?_
  intro pre x ih h
  obtain⟨h1,h2,h3⟩:=EOK.last h
  have hi:=ih (EOK.pre h)
  obtain⟨i1,_⟩:=lnRun_inv (L.take pre.length)
  rw[List.length_take,Nat.min_eq_left (Nat.le_of_lt h1)]at i1
  rw[List.length_append,List.length_singleton,cells_take h1,←h3]
  by_cases hc:x.2.1.rune=10
  · rw[lnRunE_nl hc,lnRun_nl hc,hi,h2,IntWalk.i64_in _ ⟨by omega,by omega⟩,i1]; rfl
  · rw[lnRunE_tx hc,lnRun_tx hc,hi]
theorem lnRunE_all {L:List CellA}{pre:List ElA}(hL:L.length≤1000000000)(h:EOK L pre)(hl:pre.length=L.length):(lnRunE pre).1=(lnRun L).1∧(lnRunE pre).2.1=(lnRun L).2.1:=by
  rw[lnRunE_ok hL pre h,hl,List.take_length]; exact⟨rfl,rfl⟩
noncomputable def lnErr (xs:List OpA):Nat:=if isDoc xs=true then (if lnEnds (cellsAll xs)=true then 0 else 14)else 9
noncomputable def lnOf (xs:List OpA):List LineA:=if lnErr xs=0 then (lnRun (cellsAll xs)).1 else []
noncomputable def lnAt (xs:List OpA) (p:Int):Int×Int×Nat:=
  if lnErr xs≠0 then (0,0,lnErr xs)else if p<0∨lnFind p (lnOf xs)=(lnOf xs).length then (0,0,12)else ((lnFind p (lnOf xs):Int),p-((lnOf xs).getD (lnFind p (lnOf xs)) line0).from_,0)
noncomputable def lnPlace (xs:List OpA) (i c:Int):Int×Nat:=
  if lnErr xs≠0 then (0,lnErr xs)else if i<0∨((lnOf xs).length:Int)≤i∨c<0∨((lnOf xs).getD i.toNat line0).len<c then (0,12)else (((lnOf xs).getD i.toNat line0).from_+c,0)
noncomputable def lnTouched (xs:List OpA) (f n:Int):Int×Int×Nat:=
  if (lnAt xs f).2.2≠0 then (0,0,(lnAt xs f).2.2)else if n<0∨((cellsAll xs).length:Int)-f<n then (0,0,12)else if n=0 then ((lnAt xs f).1,(lnAt xs f).1,0)else if (lnAt xs (f+n-1)).2.2≠0 then (0,0,(lnAt xs (f+n-1)).2.2)else ((lnAt xs f).1,(lnAt xs (f+n-1)).1,0)
noncomputable def lnText (cs:List CellA):ByteArray:=runesBytes (cs.map letL)
theorem sumL_base :∀ xs:List OpA,badE xs=0→sB xs≤B.L→(sumL (xs.map pelO)).2.1+(sumL (xs.map pelO)).2.2=sB xs∧0≤(sumL (xs.map pelO)).2.1∧0≤(sumL (xs.map pelO)).2.2:=by
  refine B.snoc_ind (fun _ _=>⟨rfl,Int.le_refl _,Int.le_refl _⟩) ?_
  intro xs a ih hb hL
  obtain⟨h1,h2⟩:=B.bad_snoc.1 hb
  rw[B.sB_snoc]at hL
  have hB1:=sB_ok h1
  have hL0:B.L=1099511627776:=rfl
  rw[List.map_append,List.map_cons,List.map_nil,sumL_snoc,B.sB_snoc]
  rcases kind_of_ok h2 with k|k|k|k
  · have e:opB a=0:=B.opB_ins (.inl k)
    obtain⟨i1,i2,i3⟩:=ih h1 (by omega)
    unfold stepL
    rw[if_neg (by show ¬a.kind=3; omega),if_neg (by show ¬a.kind=4; omega)]
    exact⟨by show (sumL (xs.map pelO)).2.1+(sumL (xs.map pelO)).2.2=sB xs+opB a; omega,i2,i3⟩
  · have e:opB a=0:=B.opB_ins (.inr k)
    obtain⟨i1,i2,i3⟩:=ih h1 (by omega)
    unfold stepL
    rw[if_neg (by show ¬a.kind=3; omega),if_neg (by show ¬a.kind=4; omega)]
    exact⟨by show (sumL (xs.map pelO)).2.1+(sumL (xs.map pelO)).2.2=sB xs+opB a; omega,i2,i3⟩
  · have e:opB a=a.count:=B.opB_cnt (.inl k)
    have hc:=count_of_ok h2 (.inl k)
    obtain⟨i1,i2,i3⟩:=ih h1 (by omega)
    have e2:(pelO a).2=a.count:=by unfold pelO; rw[if_neg (by omega),if_neg (by omega)]
    unfold stepL
    rw[if_pos (show (pelO a).1=3 from k),e2,IntWalk.i64_in _ ⟨by omega,by omega⟩]
    exact⟨by show (sumL (xs.map pelO)).2.1+a.count+(sumL (xs.map pelO)).2.2=sB xs+opB a; omega,by show 0≤(sumL (xs.map pelO)).2.1+a.count; omega,i3⟩
  · have e:opB a=a.count:=B.opB_cnt (.inr k)
    have hc:=count_of_ok h2 (.inr k)
    obtain⟨i1,i2,i3⟩:=ih h1 (by omega)
    have e2:(pelO a).2=a.count:=by unfold pelO; rw[if_neg (by omega),if_neg (by omega)]
    unfold stepL
    rw[if_neg (by show ¬a.kind=3; omega),if_pos (show (pelO a).1=4 from k),e2,IntWalk.i64_in _ ⟨by omega,by omega⟩]
    exact⟨by show (sumL (xs.map pelO)).2.1+((sumL (xs.map pelO)).2.2+a.count)=sB xs+opB a; omega,i2,by show 0≤(sumL (xs.map pelO)).2.2+a.count; omega⟩
theorem sB_zero :∀ xs:List OpA,badE xs=0→sB xs=0→∀ o∈xs,o.kind=1∨o.kind=2:=by
  refine B.snoc_ind (fun _ _ o ho=>by cases ho) ?_
  intro xs a ih hb h0 o ho
  obtain⟨h1,h2⟩:=B.bad_snoc.1 hb
  rw[B.sB_snoc]at h0
  have hB1:=sB_ok h1
  have ha:opB a=0∧(a.kind=1∨a.kind=2):=by
    rcases kind_of_ok h2 with k|k|k|k
    · exact⟨B.opB_ins (.inl k),.inl k⟩
    · exact⟨B.opB_ins (.inr k),.inr k⟩
    · have:=B.opB_cnt (.inl k); have:=count_of_ok h2 (.inl k); omega
    · have:=B.opB_cnt (.inr k); have:=count_of_ok h2 (.inr k); omega
  rcases List.mem_append.1 ho with ho|ho
  · exact ih h1 (by omega) o ho
  · rw[List.mem_singleton.1 ho]; exact ha.2
theorem doc_iff {xs:List OpA}(hb:badE xs=0)(hL:sB xs≤B.L):mBaseO xs=0↔isDoc xs=true:=by
  obtain⟨h1,h2,h3⟩:=sumL_base xs hb hL
  have hL0:B.L=1099511627776:=rfl
  have e:mBaseO xs=sB xs:=by unfold mBaseO; rw[h1,IntWalk.i64_in _ ⟨by omega,by omega⟩]
  rw[e]
  refine⟨fun h=>doc_of_mem (sB_zero xs hb h),fun h=>?_⟩
  have:∀ ys:List OpA,(∀ o∈ys,o.kind=1∨o.kind=2)→sB ys=0:=by
    intro ys
    induction ys with
    | nil=>intro _; rfl
    | cons o r ih=>
      intro h
      show opB o+sB r=0
      rw[B.opB_ins (h o List.mem_cons_self),ih fun x hx=>h x (List.mem_cons_of_mem _ hx)]; rfl
  exact this xs (doc_mem h)
theorem ent96 :Ent Tryz.prog 96:=ent_of Tryz.func96 (by kernel_rfl) rfl
theorem inserts_any (d:Nat)(xs:List OpA)(w:World)(hd:DeltaC w d xs)(hb:badE xs=0)(hn:xs.length≤1100000)(hz:∀ i,i<xs.length→opSz (xs.getD i op0)):Calls Tryz.prog 96 #[pw d 0] w fun e w'=>∃ A' c' zs,zs=(if isDoc xs=true then xs else [])∧e=.returned (.tuple #[.slice A' zs.length c',.bool (isDoc xs)])∧zs.length≤c'∧kOp.R 102 w' w.heap.size (OkFrom w.heap.size) (.slice A' zs.length c') zs∧Below w.heap.size w w':=by
 refine en Tryz.func96 rfl 25 [(0,pw d 0)] (fun R_ hR_=>?_)
 refine sg (xe0 2 [(0,pw d 0)] ?_)
 refine nl (sg (xe0 1 [(7,pw d 0)] ?_))
 refine xc 56 ent56 [pw d 0] (dops_any d xs _ hd hb hn hz) ?_
 rintro e w5 ⟨A1,c2,rfl,l3,r4,b6⟩; refine⟨_,rfl,?_⟩
 refine xe0 1 [(4,aL A1 xs c2)] ?_
 refine nl (sq (sg (xr0 3 [(9,aL A1 xs c2),(10,i6 (xs.length:Int)),(11,i6 0)] [] ?_)))
 refine nl (bk (X_loop (ι:=Nat) (fun i=>[(4,aL A1 xs c2),(9,aL A1 xs c2),(10,i6 (xs.length:Int)),(11,i6 (i:Int))]) (fun i wl=>i≤xs.length∧(∀ t,t<i→(xs.getD t op0).kind=1∨(xs.getD t op0).kind=2)∧Below w5.heap.size w5 wl) (fun i=>xs.length-i) 0 ⟨by omega,fun t ht=>by omega,Below.refl _ _⟩ (by kernel_rfl) ?_))
 rintro i wl ⟨hi,hk0,HB⟩
 refine sq (X_region ?_)
 by_cases c7:(i:Int)<(xs.length:Int)
 ·refine xr1 1 [(12,.eq bT)] [(12,bT)] [] (dT c7) ?_
  refine nl (sq (ct (sk (sq (bk (sq (X_region ?_)))))))
  obtain⟨ad8,B11,c12,a9,c10,l13,C14⟩:=Kd.atOp (Kd.R_C (Kd.R_below r4 HB)) (i:=(i:Int)) (by omega) (by omega)
  replace c10:CellsAt wl (ad8.add ((i:Int).toNat*7)) (o7L (xs.getD i op0) (aL B11 (xs.getD i op0).attrs c12)):=c10
  replace l13:(xs.getD i op0).attrs.length≤c12:=l13
  replace C14:kAttr.C wl B11 ((xs.getD i op0).attrs.length) (xs.getD i op0).attrs:=C14
  refine xw 3 [(13,.idx ad8),(14,.load (.agg (o7A (xs.getD i op0) (aL B11 (xs.getD i op0).attrs c12))))] [(6,pw wl.heap.size 0),(14,.agg (o7A (xs.getD i op0) (aL B11 (xs.getD i op0).attrs c12)))] [12] (wl.alloc (.cells #[i6 0,s0,i6 0,i6 0,s0,i6 0,.slice none 0 0] 102)) [A1=some ad8,(0:Int)≤(i:Int),(i:Int)<(xs.length:Int),la 102 (ad8.add ((i:Int).toNat*7)) (.agg (o7A (xs.getD i op0) (aL B11 (xs.getD i op0).attrs c12))) wl] ⟨a9,(by omega),(by omega),loadsE rfl rfl c10 0 ⟨by kernel_rfl,by kernel_rfl⟩,trivial⟩ ?_
  obtain⟨w15,w19,b16,k17,z18⟩:=new_world wl #[i6 0,s0,i6 0,i6 0,s0,i6 0,.slice none 0 0] 102
  rw[w19]
  refine xst (.agg (o7A (xs.getD i op0) (aL B11 (xs.getD i op0).attrs c12))) k17 0 (o7A (xs.getD i op0) (aL B11 (xs.getD i op0).attrs c12)) (fun w20 g21 k22 z23=>?_)
  refine nl (sg (xr1 2 [(16,.load (i6 ((xs.getD i op0).kind)))] [(16,i6 ((xs.getD i op0).kind))] [14] (lc 3 k22 0) ?_))
  by_cases c24:(xs.getD i op0).kind=1
  ·refine xr1 6 [(17,.eq bF)] [(22,bF)] [6,16] (nF c24) ?_
   refine nl (cf (sk (rg (xr1 2 [(23,.eq (i6 ((i:Int)+1)))] [(11,i6 ((i:Int)+1))] [22] (w6 ((i:Int)+1)) ?_))))
   refine nl ?_
   refine⟨(i+1),by kernel_rfl,?_,?_⟩
   ·exact⟨by omega,fun t ht=>by by_cases e_:t=i; (· subst e_; exact .inl c24); (· exact hk0 t (by omega)),(bg (bt HB b16) g21 (HB).size)⟩
   (try dsimp only); omega
  refine xr 4 [(17,.eq bT),(20,.load (i6 ((xs.getD i op0).kind)))] [(18,bT),(20,i6 ((xs.getD i op0).kind))] [6,16] [_,_] ⟨nT c24,lc 3 k22 0,trivial⟩ ?_
  by_cases c25:(xs.getD i op0).kind=2
  ·refine xr1 2 [(21,.eq bF)] [(22,bF)] [18,20] (nF c25) ?_
   refine nl (cf (sk (rg (xe1 2 [(23,.eq (i6 ((i:Int)+1)))] [(4,aL A1 xs c2),(9,aL A1 xs c2),(10,i6 (xs.length:Int)),(11,i6 ((i:Int)+1))] (w6 ((i:Int)+1)) ?_))))
   refine nl ?_
   refine⟨(i+1),by kernel_rfl,?_,?_⟩
   ·exact⟨by omega,fun t ht=>by by_cases e_:t=i; (· subst e_; exact .inr c25); (· exact hk0 t (by omega)),(bg (bt HB b16) g21 (HB).size)⟩
   (try dsimp only); omega
  refine xr1 2 [(21,.eq bT)] [(22,bT)] [18,20] (nT c25) ?_
  refine nl (ct (sg (xe0 2 [(2,.slice none 0 0),(3,bF)] ?_)))
  refine nl (X_ret (rj [.slice none 0 0,bF] hR_ ?_))
  have B26:Below w.heap.size w w20:=(bg (bt (bt b6 HB) b16) g21 ((bt b6 HB)).size)
  have hd_:=isDoc_no (xs:=xs) (i:=i) (by omega) c24 c25
  exact⟨none,0,[],by rw[hd_]; rfl,by rw[hd_]; rfl,Nat.le_refl _,Kd.R_nil _ _ _ _ _,B26⟩
 refine xr1 1 [(12,.eq bF)] [(12,bF)] [] (dF c7) ?_
 refine nl (sq (cf (X_exit (sg (xe0 3 [(2,aL A1 xs c2),(3,bT)] ?_)))))
 refine nl (X_ret (rj [.slice A1 xs.length c2,bT] hR_ ?_))
 have hd_:=isDoc_yes (xs:=xs) (fun t ht=>hk0 t (by omega))
 exact⟨_,_,xs,by rw[if_pos hd_],by rw[hd_]; rfl,(RX.Kd.R_len (Kd.R_below r4 HB)).2,Kd.R_low (Kd.R_below r4 HB) (Nat.le_refl _),(bt b6 HB)⟩
theorem ent160 :Ent Tryz.prog 160:=ent_of Tryz.func160 (by kernel_rfl) rfl
theorem ent159 :Ent Tryz.prog 159:=ent_of Tryz.func159 (by kernel_rfl) rfl
theorem ent161 :Ent Tryz.prog 161:=ent_of Tryz.func161 (by kernel_rfl) rfl
theorem clo_any (D:Nat→Prop)(lp gy n0 n Q k0:Nat)(cl:CellA)(A0:Option Addr)(pre:List ElA)(M:Nat→Prop)(J:List ElA→(Nat→Prop)→World→Prop)(Jx:List ElA→World→Prop)(W1:World)(hy:RX.Blk W1 gy 219 #[.func (.yield lp) #[] #[]])(hC:kAttr.C W1 A0 cl.attrs.length cl.attrs)(hcl:cl.attrs.length≤100000000)(hJ:J pre M W1)(hJb:∀ s M (W W1:World),Below W.heap.size W W1→J s M W→J s M W1)(hn:n0≤W1.heap.size)(hD:∀ k,D k→k<W1.heap.size)(hpn:pre.length=n)(hq:n<Q)(hY:YD D Tryz.prog lp n0 J Jx Q):
  Calls Tryz.prog 161 #[i6 (n:Int),.agg (c6A cl (aL A0 cl.attrs k0)),pw gy 0] W1 fun e W'=>ToldR D J Jx pre M n cl W1 e W':=by
 refine en Tryz.func161 rfl 14 [(0,i6 (n:Int)),(1,.agg (c6A cl (aL A0 cl.attrs k0))),(2,pw gy 0)] (fun R_ hR_=>?_)
 refine sg (xwe 1 [] [(0,nv n),(2,pw gy 0),(4,pw W1.heap.size 0)] (W1.alloc (.cells (c6A cl (aL A0 cl.attrs k0)) 51)) [] trivial ?_)
 obtain⟨w_1,w5,b2,k3,z4⟩:=new_world W1 (c6A cl (aL A0 cl.attrs k0)) 51
 rw[w5]
 refine xr0 1 [] [] ?_
 refine nl (sg (xr1 2 [(7,.load (aL A0 cl.attrs k0))] [(7,aL A0 cl.attrs k0)] [] (lc 49 k3 5) ?_))
 refine xc 110 ent110 [aL A0 cl.attrs k0] (clone_any _ _ cl.attrs _ (Kd.C_below hC b2) (by omega)) ?_
 rintro e w10 ⟨A6,c7,rfl,l8,r9,b11⟩; refine⟨_,rfl,?_⟩
 refine xr0 1 [(8,aL A6 cl.attrs c7),(9,pw W1.heap.size 5)] [7] ?_
 refine xst (aL A6 cl.attrs c7) (Blk.below k3 b11) 5 (c6A cl (aL A6 cl.attrs c7)) (fun w12 g13 k14 z15=>?_)
 have hne16:gy≠W1.heap.size:=Blk.tne (Blk.below hy (bt b2 b11)) (Blk.below k3 b11) rfl
 have k17:=Blk.other (Blk.below hy (bt b2 b11)) g13 hne16
 have r18:=Kd.R_off r9 (Blk.below k3 b11) (by decide) g13
 refine nl (sq (X_regionI ?_))
 refine XLI_pre 3 (by kernel_rfl) (fun _ _ h_=>h_) ?_
 refine xe 3 [(10,.load (.func (.yield lp) #[] #[])),(12,.load (.agg (c6A cl (aL A6 cl.attrs c7))))] [(10,.func (.yield lp) #[] #[]),(11,nv n),(12,.agg (c6A cl (aL A6 cl.attrs c7)))] [_,la 51 (⟨W1.heap.size,0,none⟩) (.agg (c6A cl (aL A6 cl.attrs c7))) w12] ⟨lc 219 k17 0,loadsB rfl rfl k14 0 ⟨by kernel_rfl,by kernel_rfl⟩,trivial⟩ ?_
 refine nl ?_
 have B20:Below W1.heap.size W1 w12:=(bg (bt b2 b11) g13 (Nat.le_refl _))
 refine XLI_yield rfl rfl rfl rfl [i6 (n:Int),.agg (c6A cl (aL A6 cl.attrs c7))] (by kernel_rfl) (hY pre M ((n:Int),cl,A6,c7) _ (hJb _ _ _ _ B20 hJ) ⟨Int.natCast_nonneg _,hcl,_,Nat.le_trans hn (b2).size,l8,r18⟩ (by omega)) ?_
 rintro e w19 (⟨rfl,M2_,hJ2_,hK2_,hM2_⟩|⟨rfl,hJ2_⟩)
 ·refine⟨_,rfl,?_⟩
  refine XLI_of (by kernel_rfl) (fun _ _ h_=>h_) ?_
  refine xe0 1 [(5,bT)] ?_
  refine nl (X_ret (rj [bT] hR_ ?_))
  exact⟨((n:Int),cl,A6,c7),rfl,rfl,.inl ⟨rfl,M2_,hJ2_,(KpM.below hD B20).trans hK2_,fun k_ h_=>(hM2_ k_ h_).imp id (Nat.le_trans (B20).size)⟩⟩
 refine⟨_,rfl,?_⟩
 refine XLI_of (by kernel_rfl) (fun _ _ h_=>h_) ?_
 refine xe0 1 [(5,bF)] ?_
 refine nl (X_ret (rj [bF] hR_ ?_))
 exact⟨((n:Int),cl,A6,c7),rfl,rfl,.inr ⟨rfl,hJ2_⟩⟩
set_option maxHeartbeats 1000000 in
theorem told9_any (D okD:Nat→Prop)(b0 lp gy n0 Q:Nat)(A:Option Addr)(c:Nat)(ops:List OpA)(J:List ElA→(Nat→Prop)→World→Prop)(Jx:List ElA→World→Prop)(M0:Nat→Prop)(wo w:World)(hx:kOp.R 102 w b0 okD (.slice A ops.length c) ops)(hokD:∀ k,okD k→D k)(hol:ops.length≤1000000000)(hr:∀ t,t<ops.length→refuseP (ops.getD t op0)=0)(hz:∀ t,t<ops.length→opSz (ops.getD t op0))(hT:Tabs wo)(es:List Addr)(hE:ErrsC wo es)(hwo:∀ k,k<wo.heap.size→D k)(hB:Below wo.heap.size wo w)(hnw:n0≤w.heap.size)(hy:RX.Blk w gy 219 #[.func (.yield lp) #[] #[]])(hgy:∀ k,M0 k→k<gy∨gy+1≤k)(hJ0:J [] M0 w)(hJb:∀ s M (W W1:World),Below W.heap.size W W1→J s M W→J s M W1)(hMb:∀ s M W,J s M W→∀ k,M k→¬D k∧k<W.heap.size)(hD:∀ k,D k→k<w.heap.size)(hL:(cellsAll ops).length≤1000000000)(hQ:(cellsAll ops).length≤Q)(hY:YD D Tryz.prog lp n0 J Jx Q):
  Calls Tryz.prog 160 #[.slice A ops.length c,.func (.func 161) #[] #[pw gy 0]] w fun e W'=>((e=.returned bT∧∃ pre M,EOK (cellsAll ops) pre∧pre.length=(cellsAll ops).length∧J pre M W')∨(e=.returned bF∧∃ pre,EOK (cellsAll ops) pre∧Jx pre W')):=by
 refine en Tryz.func160 rfl 40 [(0,aL A ops c),(1,.func (.func 161) #[] #[pw gy 0])] (fun R_ hR_=>?_)
 refine sg (xe0 1 [(0,aL A ops c),(1,.func (.func 161) #[] #[pw gy 0])] ?_)
 refine nl (sg (xr0 1 [(5,i6 0)] [] ?_))
 refine nl (sq (sg (xr0 3 [(12,aL A ops c),(13,i6 (ops.length:Int)),(14,i6 0)] [0] ?_)))
 refine nl (bk (X_loop (ι:=Nat×Nat×List ElA×(Nat→Prop)) (fun⟨i,n,pre,M⟩=>[(1,.func (.func 161) #[] #[pw gy 0]),(5,i6 (n:Int)),(12,aL A ops c),(13,i6 (ops.length:Int)),(14,i6 (i:Int))]) (fun⟨i,n,pre,M⟩ wl=>i≤ops.length∧pre.length=n∧n=(cellsAll (ops.take i)).length∧EOK (cellsAll ops) pre∧J pre M wl∧(∀ k,M k→k<gy∨gy+1≤k)∧RX.Blk wl gy 219 #[.func (.yield lp) #[] #[]]∧w.heap.size≤wl.heap.size∧kOp.R 102 wl b0 okD (aL A ops c) ops∧Below wo.heap.size wo wl) (fun⟨i,n,pre,M⟩=>ops.length-i) (0,0,[],M0) ⟨by omega,rfl,rfl,EOK.nil _,hJ0,hgy,hy,(Nat.le_refl _),hx,hB⟩ (by kernel_rfl) ?_))
 rintro⟨i,n,pre,M⟩ wl ⟨hi,hpn,hnc,heok,hJ1,hgM,hk1,hn1,hx1,HB⟩
 have hgl:=hk1.lt
 refine sq (X_region ?_)
 by_cases c1:(i:Int)<(ops.length:Int)
 ·refine xr1 1 [(15,.eq bT)] [(15,bT)] [] (dT c1) ?_
  refine nl (sq (ct (sk (sq (bk (sq (X_region ?_)))))))
  obtain⟨ad2,B5,c6,a3,c4,l7,C8⟩:=Kd.atOp (Kd.R_C hx1) (i:=(i:Int)) (by omega) (by omega)
  replace c4:CellsAt wl (ad2.add ((i:Int).toNat*7)) (o7L (ops.getD i op0) (aL B5 (ops.getD i op0).attrs c6)):=c4
  replace l7:(ops.getD i op0).attrs.length≤c6:=l7
  replace C8:kAttr.C wl B5 ((ops.getD i op0).attrs.length) (ops.getD i op0).attrs:=C8
  refine xw 3 [(16,.idx ad2),(17,.load (.agg (o7A (ops.getD i op0) (aL B5 (ops.getD i op0).attrs c6))))] [(7,pw wl.heap.size 0),(17,.agg (o7A (ops.getD i op0) (aL B5 (ops.getD i op0).attrs c6)))] [15] (wl.alloc (.cells #[i6 0,s0,i6 0,i6 0,s0,i6 0,.slice none 0 0] 102)) [A=some ad2,(0:Int)≤(i:Int),(i:Int)<(ops.length:Int),la 102 (ad2.add ((i:Int).toNat*7)) (.agg (o7A (ops.getD i op0) (aL B5 (ops.getD i op0).attrs c6))) wl] ⟨a3,(by omega),(by omega),loadsE rfl rfl c4 0 ⟨by kernel_rfl,by kernel_rfl⟩,trivial⟩ ?_
  obtain⟨w9,w13,b10,k11,z12⟩:=new_world wl #[i6 0,s0,i6 0,i6 0,s0,i6 0,.slice none 0 0] 102
  rw[w13]
  refine xst (.agg (o7A (ops.getD i op0) (aL B5 (ops.getD i op0).attrs c6))) k11 0 (o7A (ops.getD i op0) (aL B5 (ops.getD i op0).attrs c6)) (fun w14 g15 k16 z17=>?_)
  refine nl (sg (xr 1 [(19,.load (.agg (o7A (ops.getD i op0) (aL B5 (ops.getD i op0).attrs c6))))] [(19,.agg (o7A (ops.getD i op0) (aL B5 (ops.getD i op0).attrs c6)))] [7,17] [la 102 (⟨wl.heap.size,0,none⟩) (.agg (o7A (ops.getD i op0) (aL B5 (ops.getD i op0).attrs c6))) w14] ⟨loadsB rfl rfl k16 0 ⟨by kernel_rfl,by kernel_rfl⟩,trivial⟩ ?_))
  refine xc 200 ent200 [.agg (o7A (ops.getD i op0) (aL B5 (ops.getD i op0).attrs c6))] (ccells_any (ops.getD i op0) _ _ _ (Kd.C_below C8 (bg b10 g15 (Nat.le_refl _))) (hz i (by omega)) (hT.below (bg (bt HB b10) g15 (HB).size)) es (hE.below (bg (bt HB b10) g15 (HB).size))) ?_
  rintro e w21 ⟨A18,c19,rfl,r20,b22⟩; refine⟨_,rfl,?_⟩
  have hrz_:=hr i (by omega); rw[show cellsO (ops.getD i op0)=cellsP (ops.getD i op0)from if_pos hrz_]at r20 ⊢; rw[hrz_]
  have hcap_:=cellsAll_take (xs:=ops) (i:=i) (by omega)
  have hcl_:(cellsAll (ops.take (i+1))).length≤(cellsAll ops).length:=cellsAll_le ops (i+1)
  rw[hcap_,List.length_append]at hcl_
  have hr9_:kCell.R 51 w21 w14.heap.size (fun k_=>w14.heap.size≤k_∧k_<w21.heap.size) (aL A18 (cellsP (ops.getD i op0)) c19) (cellsP (ops.getD i op0)):=Kd.R_mono (Kd.R_bound r20) (fun k_ hk_=>⟨hk_.2.1,hk_.2.2.1⟩)
  rw[errV_zero]
  refine xr0 5 [(8,aL A18 (cellsP (ops.getD i op0)) c19),(9,.nilIface)] [19,20] ?_
  refine nl (sq (sg (xr0 2 [(24,bF)] [9] ?_)))
  refine nl (cf (sk (sg (xe0 3 [(1,.func (.func 161) #[] #[pw gy 0]),(5,nv n),(12,aL A ops c),(13,i6 (ops.length:Int)),(14,nv i),(25,aL A18 (cellsP (ops.getD i op0)) c19),(26,i6 ((cellsP (ops.getD i op0)).length:Int)),(27,i6 0)] ?_))))
  refine nl (X_block ?_)
  have hlohi_:w14.heap.size≤w21.heap.size:=(b22).size
  have hwlo_:wl.heap.size≤w14.heap.size:=((bg b10 g15 (Nat.le_refl _))).size
  have hhiW_:w21.heap.size≤w21.heap.size:=(Nat.le_refl _)
  have B23:Below wl.heap.size wl w21:=(bt (bg b10 g15 (Nat.le_refl _)) b22)
  have B24:Below wo.heap.size wo w21:=(bt (bg (bt HB b10) g15 (HB).size) b22)
  refine X_loop (ι:=Nat×Nat×List ElA×(Nat→Prop)) (fun⟨j,n2,pre2,M2⟩=>[(1,.func (.func 161) #[] #[pw gy 0]),(5,i6 (n2:Int)),(12,aL A ops c),(13,i6 (ops.length:Int)),(14,i6 (i:Int)),(25,aL A18 (cellsP (ops.getD i op0)) c19),(26,i6 ((cellsP (ops.getD i op0)).length:Int)),(27,i6 (j:Int))]) (fun⟨j,n2,pre2,M2⟩ wk=>j≤(cellsP (ops.getD i op0)).length∧pre2.length=n2∧n2=(cellsAll (ops.take i)).length+j∧EOK (cellsAll ops) pre2∧J pre2 M2 wk∧(∀ k,M2 k→k<gy∨gy+1≤k)∧(∀ k,M2 k→k<w14.heap.size∨w21.heap.size≤k)∧RX.Blk wk gy 219 #[.func (.yield lp) #[] #[]]∧w.heap.size≤wk.heap.size∧kOp.R 102 wk b0 okD (aL A ops c) ops∧kCell.R 51 wk w14.heap.size (fun k_=>w14.heap.size≤k_∧k_<w21.heap.size) (aL A18 (cellsP (ops.getD i op0)) c19) (cellsP (ops.getD i op0))∧w21.heap.size≤wk.heap.size∧Below wo.heap.size wo wk) (fun⟨j,n2,pre2,M2⟩=>(cellsP (ops.getD i op0)).length-j) (0,n,pre,M) ⟨by omega,hpn,by omega,heok,(hJb _ _ _ _ B23 hJ1),hgM,(fun k_ h_=>.inl (Nat.lt_of_lt_of_le (hMb _ _ _ hJ1 k_ h_).2 hwlo_)),(Blk.below hk1 B23),(Nat.le_trans hn1 (B23).size),(Kd.R_below hx1 B23),hr9_,hhiW_,B24⟩ (by kernel_rfl) ?_
  rintro⟨j,n2,pre2,M2⟩ wk ⟨hj,hpn2,hnc2,heok2,hJ2,hgM2,hlo2,hk2,hn2,hx2,hr6,hhi2,HB2⟩
  have hgl2:=hk2.lt
  refine sq (X_region ?_)
  by_cases c25:(j:Int)<((cellsP (ops.getD i op0)).length:Int)
  ·refine xr1 1 [(28,.eq bT)] [(28,bT)] [] (dT c25) ?_
   refine nl (sq (ct (sk (sq (bk (sq (X_region ?_)))))))
   obtain⟨ad26,B29,c30,a27,c28,l31,C32⟩:=Kd.atCell (Kd.R_C hr6) (i:=(j:Int)) (by omega) (by omega)
   replace c28:CellsAt wk (ad26.add ((j:Int).toNat*6)) (c6L ((cellsP (ops.getD i op0)).getD j cell0) (aL B29 ((cellsP (ops.getD i op0)).getD j cell0).attrs c30)):=c28
   replace l31:((cellsP (ops.getD i op0)).getD j cell0).attrs.length≤c30:=l31
   replace C32:kAttr.C wk B29 (((cellsP (ops.getD i op0)).getD j cell0).attrs.length) ((cellsP (ops.getD i op0)).getD j cell0).attrs:=C32
   refine xw 3 [(29,.idx ad26),(30,.load (.agg (c6A ((cellsP (ops.getD i op0)).getD j cell0) (aL B29 ((cellsP (ops.getD i op0)).getD j cell0).attrs c30))))] [(11,pw wk.heap.size 0),(30,.agg (c6A ((cellsP (ops.getD i op0)).getD j cell0) (aL B29 ((cellsP (ops.getD i op0)).getD j cell0).attrs c30)))] [28] (wk.alloc (.cells #[.int .i32 0,s0,i6 0,i6 0,s0,.slice none 0 0] 51)) [A18=some ad26,(0:Int)≤(j:Int),(j:Int)<((cellsP (ops.getD i op0)).length:Int),la 51 (ad26.add ((j:Int).toNat*6)) (.agg (c6A ((cellsP (ops.getD i op0)).getD j cell0) (aL B29 ((cellsP (ops.getD i op0)).getD j cell0).attrs c30))) wk] ⟨a27,(by omega),(by omega),loadsE rfl rfl c28 0 ⟨by kernel_rfl,by kernel_rfl⟩,trivial⟩ ?_
   obtain⟨w33,w37,b34,k35,z36⟩:=new_world wk #[.int .i32 0,s0,i6 0,i6 0,s0,.slice none 0 0] 51
   rw[w37]
   refine xst (.agg (c6A ((cellsP (ops.getD i op0)).getD j cell0) (aL B29 ((cellsP (ops.getD i op0)).getD j cell0).attrs c30))) k35 0 (c6A ((cellsP (ops.getD i op0)).getD j cell0) (aL B29 ((cellsP (ops.getD i op0)).getD j cell0).attrs c30)) (fun w38 g39 k40 z41=>?_)
   refine nl (sq (sg (xr 3 [(33,.load (.agg (c6A ((cellsP (ops.getD i op0)).getD j cell0) (aL B29 ((cellsP (ops.getD i op0)).getD j cell0).attrs c30))))] [(31,.func (.func 161) #[] #[pw gy 0]),(32,nv n2),(33,.agg (c6A ((cellsP (ops.getD i op0)).getD j cell0) (aL B29 ((cellsP (ops.getD i op0)).getD j cell0).attrs c30)))] [11,30] [la 51 (⟨wk.heap.size,0,none⟩) (.agg (c6A ((cellsP (ops.getD i op0)).getD j cell0) (aL B29 ((cellsP (ops.getD i op0)).getD j cell0).attrs c30))) w38] ⟨loadsB rfl rfl k40 0 ⟨by kernel_rfl,by kernel_rfl⟩,trivial⟩ ?_)))
   have hrw_:=Kd.R_below hr6 (bg b34 g39 (Nat.le_refl _))
   have hjl_:j<(cellsP (ops.getD i op0)).length:=by omega
   have hcg_:((cellsP (ops.getD i op0)).getD j cell0)=(cellsAll ops).getD n2 cell0:=cellsAll_at (by omega) hjl_ (by omega)
   have hgo_:=(Blk.below hk2 (bg b34 g39 (Nat.le_refl _)))
   have hln_:((cellsP (ops.getD i op0)).getD j cell0).attrs.length≤100000000:=cellsP_len (hz i (by omega)) hjl_
   refine XL_callv 161 rfl rfl rfl ent161 #[pw gy 0] (by kernel_rfl) [i6 (n2:Int),.agg (c6A ((cellsP (ops.getD i op0)).getD j cell0) (aL B29 ((cellsP (ops.getD i op0)).getD j cell0).attrs c30))] (by kernel_rfl) (clo_any D lp gy n0 n2 Q _ ((cellsP (ops.getD i op0)).getD j cell0) _ pre2 M2 J Jx _ hgo_ (Kd.C_below C32 (bg b34 g39 (Nat.le_refl _))) hln_ (hJb _ _ _ _ (bg b34 g39 (Nat.le_refl _)) hJ2) hJb (Nat.le_trans hnw (Nat.le_trans hn2 ((bg b34 g39 (Nat.le_refl _))).size)) (fun k_ h_=>Nat.lt_of_lt_of_le (hD k_ h_) (Nat.le_trans hn2 ((bg b34 g39 (Nat.le_refl _))).size)) hpn2 (by omega) hY) ?_
   rintro e w42 ⟨x_,hx1_,hx2_,(⟨rfl,M3_,hJ3_,hK3_,hM3_⟩|⟨rfl,hJ3_⟩)⟩
   ·refine⟨_,rfl,?_⟩
    have heok3_:=heok2.snoc (x:=x_) (by omega) (by omega) (by rw[hx2_,hcg_,hpn2])
    have hn3_:w.heap.size≤w42.heap.size:=Nat.le_trans (Nat.le_trans hn2 ((bg b34 g39 (Nat.le_refl _))).size) hK3_.size
    have hx3_:=hK3_.rowD (Kd.R_below hx2 (bg b34 g39 (Nat.le_refl _))) hokD
    have hB3_:Below wo.heap.size wo w42:=((bg (bt HB2 b34) g39 (HB2).size)).trans (hK3_.toBelow hwo)
    have hwk_:wk.heap.size≤w38.heap.size:=((bg b34 g39 (Nat.le_refl _))).size
    have hk3_:=hK3_.blk hgo_ (fun h_=>by have:=hgM2 _ h_; omega)
    have hgM3_:=new_apart hM3_ hgM2 (Nat.succ_le_of_lt (Blk.lt hgo_))
    have hlo3_:=new_apart hM3_ hlo2 (by omega)
    have hr3_:=hK3_.row hrw_ (fun k_ h1_ h2_=>by have:=hlo2 k_ h2_; omega)
    have hhi3_:w21.heap.size≤w42.heap.size:=by have:=hK3_.size; omega
    have hpn3_:(pre2++[x_]).length=n2+1:=by rw[List.length_append,List.length_singleton,hpn2]
    refine xr0 1 [(35,bF)] [31,32,33,34] ?_
    refine nl (cf (sk (X_region ?_)))
    refine xr 3 [(37,.eq (i6 ((n2+1:Nat):Int)))] [(5,i6 ((n2+1:Nat):Int))] [35] [i6 (IntKind.i64.wrap ((n2:Int)+1))=i6 ((n2+1:Nat):Int)] ⟨(by rw[show (n2:Int)+1=((n2+1:Nat):Int)from by omega]; exact wr_i64 (by omega) (by omega)),trivial⟩ ?_
    refine nl (rg (xe1 2 [(38,.eq (i6 ((j:Int)+1)))] [(1,.func (.func 161) #[] #[pw gy 0]),(5,i6 ((n2+1:Nat):Int)),(12,aL A ops c),(13,i6 (ops.length:Int)),(14,nv i),(25,aL A18 (cellsP (ops.getD i op0)) c19),(26,i6 ((cellsP (ops.getD i op0)).length:Int)),(27,i6 ((j:Int)+1))] (w6 ((j:Int)+1)) ?_))
    refine nl ?_
    refine⟨(j+1,n2+1,(pre2++[x_]),M3_),by kernel_rfl,?_,?_⟩
    ·exact⟨by omega,hpn3_,by omega,heok3_,hJ3_,hgM3_,hlo3_,hk3_,(Nat.le_trans hn3_ (Nat.le_refl _)),hx3_,hr3_,(Nat.le_trans hhi3_ (Nat.le_refl _)),hB3_⟩
    (try dsimp only); omega
   refine⟨_,rfl,?_⟩
   have heok3_:=heok2.snoc (x:=x_) (by omega) (by omega) (by rw[hx2_,hcg_,hpn2])
   refine xr0 1 [(35,bT)] [31,32,33,34] ?_
   refine nl (ct (sg (xe0 1 [(4,bF)] ?_)))
   refine nl (X_ret (rj [bF] hR_ ?_))
   exact .inr ⟨rfl,_,heok3_,hJ3_⟩
  refine xr1 1 [(28,.eq bF)] [(28,bF)] [] (dF c25) ?_
  refine nl (sq (cf (X_exit (rg (xr1 2 [(39,.eq (i6 ((i:Int)+1)))] [(14,i6 ((i:Int)+1))] [25,26,27,28] (w6 ((i:Int)+1)) ?_)))))
  refine nl ?_
  refine⟨(i+1,n2,pre2,M2),by kernel_rfl,?_,?_⟩
  ·exact⟨by omega,hpn2,by rw[cellsAll_take (by omega),List.length_append]; omega,heok2,hJ2,hgM2,hk2,(Nat.le_trans hn2 (Nat.le_refl _)),hx2,HB2⟩
  (try dsimp only); omega
 refine xr1 1 [(15,.eq bF)] [(15,bF)] [] (dF c1) ?_
 refine nl (sq (cf (X_exit (sg (xe0 1 [(4,bT)] ?_)))))
 refine nl (X_ret (rj [bT] hR_ ?_))
 obtain rfl:i=ops.length:=by omega
 rw[List.take_length]at hnc
 exact .inl ⟨rfl,pre,M,heok,by omega,hJ1⟩
theorem ceach_seq (D okD:Nat→Prop)(b0 g:Nat)(A:Option Addr)(c:Nat)(ops:List OpA)(wo w1:World)(hx:kOp.R 102 w1 b0 okD (.slice A ops.length c) ops)(hokD:∀ k,okD k→D k)(hwo:∀ k,k<wo.heap.size→D k)(hD:∀ k,D k→k<w1.heap.size)(hB:Below wo.heap.size wo w1)(hol:ops.length≤1000000000)(hr:∀ t,t<ops.length→refuseP (ops.getD t op0)=0)(hz:∀ t,t<ops.length→opSz (ops.getD t op0))(hT:Tabs wo)(es:List Addr)(hE:ErrsC wo es)(hk:RX.Blk w1 g 22 #[.slice A ops.length c])(hL:(cellsAll ops).length≤1000000000):
  SeqM D Tryz.prog 159 #[pw g 0] elV (fun xs=>EOK (cellsAll ops) xs∧xs.length=(cellsAll ops).length) (fun pre=>EOK (cellsAll ops) pre) (ElPx w1.heap.size) (cellsAll ops).length w1:=by
 intro lp J Jx M0 W hW hJ hJx hMb hY hJ0
 have hJb:∀ s M (X Y:World),Below X.heap.size X Y→J s M X→J s M Y:=fun s M X Y hb hj=>abides_below (hJ M) hb hj
 refine callsIn_wide.2 ?_
 rw[show (#[Value.func (.yield lp) #[] #[]]++#[pw g 0]:Array Value)=#[.func (.yield lp) #[] #[],pw g 0]from rfl]
 refine en Tryz.func159 rfl 6 [(0,.func (.yield lp) #[] #[]),(1,pw g 0)] (fun R_ hR_=>?_)
 refine sg (xwe 1 [] [(1,pw g 0),(2,pw W.heap.size 0)] (W.alloc (.cells #[.func (.yield lp) #[] #[]] 219)) [] trivial ?_)
 obtain⟨w_1,w5,b2,k3,z4⟩:=new_world W #[.func (.yield lp) #[] #[]] 219
 rw[w5]
 refine nl (rg (xe1 2 [(3,.load (aL A ops c))] [(3,aL A ops c),(4,.func (.func 161) #[] #[pw W.heap.size 0])] (lc 22 (Blk.below hk (bt hW b2)) 0) ?_))
 have hgw_:W.heap.size≤W.heap.size:=(Nat.le_refl _)
 refine xc 160 ent160 [.slice A ops.length c,.func (.func 161) #[] #[pw W.heap.size 0]] (told9_any D okD b0 lp W.heap.size w1.heap.size (cellsAll ops).length A c ops J Jx M0 wo _ (Kd.R_below hx (bt hW b2)) hokD hol hr hz hT es hE hwo (hB.trans (bel_lo2 (bt hW b2) hB.size)) ((bt hW b2)).size k3 (fun k_ h_=>.inl (Nat.lt_of_lt_of_le (hMb _ _ _ hJ0 k_ h_).2 hgw_)) (hJb _ _ _ _ b2 hJ0) hJb hMb (fun k_ h_=>Nat.lt_of_lt_of_le (hD k_ h_) ((bt hW b2)).size) hL (Nat.le_refl _) hY) ?_
 rintro e w_6 (⟨rfl,pre_,M_,hp1_,hp2_,hJ1_⟩|⟨rfl,pre_,hp1_,hJ1_⟩)
 ·refine⟨_,rfl,?_⟩
  refine nl (ek [] (hR_ _ _ ?_))
  exact⟨⟨_,rfl⟩,.inl ⟨_,_,⟨hp1_,hp2_⟩,hJ1_⟩⟩
 refine⟨_,rfl,?_⟩
 refine nl (ek [] (hR_ _ _ ?_))
 exact⟨⟨_,rfl⟩,.inr ⟨_,hp1_,hJ1_⟩⟩
theorem ent97 :Ent Tryz.prog 97:=ent_of Tryz.func97 (by kernel_rfl) rfl
theorem ceach_any (d:Nat)(xs:List OpA)(w:World)(hd:DeltaC w d xs)(hb:badE xs=0)(hn:xs.length≤1100000)(hz:∀ i,i<xs.length→opSz (xs.getD i op0)):Calls Tryz.prog 97 #[pw d 0] w fun e w'=>∃ g A' c' zs,zs=(if isDoc xs=true then xs else [])∧e=.returned (.func (.func 159) #[] #[pw g 0])∧w.heap.size≤g∧RX.Blk w' g 22 #[.slice A' zs.length c']∧kOp.R 102 w' w.heap.size (OkFrom w.heap.size) (.slice A' zs.length c') zs∧Below w.heap.size w w':=by
 refine en Tryz.func97 rfl 11 [(0,pw d 0)] (fun R_ hR_=>?_)
 refine sg (xe0 1 [(0,pw d 0)] ?_)
 refine nl (sg (xe0 1 [(6,pw d 0)] ?_))
 refine xc 96 ent96 [pw d 0] (inserts_any d xs _ hd hb hn hz) ?_
 rintro e w7 ⟨A1,c2,zs3,ez4,rfl,l5,r6,b8⟩; refine⟨_,rfl,?_⟩
 refine xwe 4 [] [(3,pw w7.heap.size 0),(8,aL A1 zs3 c2),(9,.bool (isDoc xs))] (w7.alloc (.cells #[.slice none 0 0] 22)) [] trivial ?_
 obtain⟨w9,w13,b10,k11,z12⟩:=new_world w7 #[.slice none 0 0] 22
 rw[w13]
 refine xst (aL A1 zs3 c2) k11 0 #[aL A1 zs3 c2] (fun w14 g15 k16 z17=>?_)
 have r18:=Kd.R_off (Kd.R_below r6 b10) k11 (by decide) g15
 refine xr0 1 [] [8,9] ?_
 refine nl (sg (xe0 2 [(2,.func (.func 159) #[] #[pw w7.heap.size 0])] ?_))
 refine nl (X_ret (rj [.func (.func 159) #[] #[pw w7.heap.size 0]] hR_ ?_))
 exact⟨_,_,_,zs3,ez4,rfl,(b8).size,k16,Kd.R_low r18 (Nat.le_refl _),(bg (bt b8 b10) g15 (b8).size)⟩
end Go.Proofs.YtgphmfnkeolbcaaGreatDoor
