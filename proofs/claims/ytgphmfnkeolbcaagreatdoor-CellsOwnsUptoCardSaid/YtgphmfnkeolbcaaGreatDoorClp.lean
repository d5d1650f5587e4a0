import Derived.Test.YtgphmfnkeolbcaaGreatDoorT57
import Derived.Test.YtgphmfnkeolbcaaGreatDoorCls
import Derived.Test.YtgphmfnkeolbcaaGreatDoorPatch
import Derived.Test.YtgphmfnkeolbcaaGreatDoorT50
import Derived.Test.YtgphmfnkeolbcaaGreatDoorIn
/- vellumref06.Document. Conditions: sizes. -/

set_option linter.unusedVariables false
set_option linter.unusedSimpArgs false
set_option maxRecDepth 100000
namespace Go.Proofs.YtgphmfnkeolbcaaGreatDoor
open Go Go.RowKit Go.Proofs.YtgphmfnkeolbcaaGreatDoorW.PrintWords RX
theorem doc6_any (A:Option Addr)(c:Nat)(xs:List OpA)(w:World)(hx:kOp.C w A xs.length xs)(hn:xs.length≤1100000):Rt 32 #[.slice A xs.length c] w (.bool (isDoc xs)):=by
 have hpl:xs.length≤9223372036854775807:=hx.2.1
 refine en Tryz.func32 rfl 15 [(0,aL A xs c)] (fun R_ hR_=>?_)
 refine sg (xe0 1 [(0,aL A xs c)] ?_)
 refine nl (sq (sg (xe0 3 [(5,aL A xs c),(6,i6 (xs.length:Int)),(7,i6 0)] ?_)))
 refine nl (bk (X_loop (ι:=Nat) (fun i=>[(5,aL A xs c),(6,i6 (xs.length:Int)),(7,i6 (i:Int))]) (fun i wl=>i≤xs.length∧(∀ t,t<i→insO (xs.getD t op0))∧Below w.heap.size w wl) (fun i=>xs.length-i) 0 ⟨Nat.zero_le _,fun t ht=>by omega,(Below.refl _ _)⟩ (by kernel_rfl) ?_))
 rintro i wl ⟨hi,hk0,HB⟩
 refine sq (X_region ?_)
 by_cases c1:(i:Int)<(xs.length:Int)
 ·refine xr1 1 [(8,.eq bT)] [(8,bT)] [] (dT c1) ?_
  refine nl (sq (ct (sk (sq (bk (sq (X_region ?_)))))))
  obtain⟨ad2,B5,c6,a3,c4,l7,C8⟩:=Kd.atOp (Kd.C_below hx HB) (i:=(i:Int)) (by omega) (by omega)
  replace c4:CellsAt wl (ad2.add ((i:Int).toNat*7)) (o7L (xs.getD i op0) (aL B5 (xs.getD i op0).attrs c6)):=c4
  replace l7:(xs.getD i op0).attrs.length≤c6:=l7
  replace C8:kAttr.C wl B5 ((xs.getD i op0).attrs.length) (xs.getD i op0).attrs:=C8
  refine xw 3 [(9,.idx ad2),(10,.load (.agg (o7A (xs.getD i op0) (aL B5 (xs.getD i op0).attrs c6))))] [(4,pw wl.heap.size 0),(10,.agg (o7A (xs.getD i op0) (aL B5 (xs.getD i op0).attrs c6)))] [8] (wl.alloc (.cells #[i6 0,s0,i6 0,i6 0,s0,i6 0,.slice none 0 0] 102)) [A=some ad2,(0:Int)≤(i:Int),(i:Int)<(xs.length:Int),la 102 (ad2.add ((i:Int).toNat*7)) (.agg (o7A (xs.getD i op0) (aL B5 (xs.getD i op0).attrs c6))) wl] ⟨a3,(by omega),(by omega),loadsE rfl rfl c4 0 ⟨by kernel_rfl,by kernel_rfl⟩,trivial⟩ ?_
  obtain⟨w9,w13,b10,k11,z12⟩:=new_world wl #[i6 0,s0,i6 0,i6 0,s0,i6 0,.slice none 0 0] 102
  rw[w13]
  refine xst (.agg (o7A (xs.getD i op0) (aL B5 (xs.getD i op0).attrs c6))) k11 0 (o7A (xs.getD i op0) (aL B5 (xs.getD i op0).attrs c6)) (fun w14 g15 k16 z17=>?_)
  refine nl (sg (xr 1 [(11,.load (.agg (o7A (xs.getD i op0) (aL B5 (xs.getD i op0).attrs c6))))] [(11,.agg (o7A (xs.getD i op0) (aL B5 (xs.getD i op0).attrs c6)))] [4,10] [la 102 (⟨wl.heap.size,0,none⟩) (.agg (o7A (xs.getD i op0) (aL B5 (xs.getD i op0).attrs c6))) w14] ⟨loadsB rfl rfl k16 0 ⟨by kernel_rfl,by kernel_rfl⟩,trivial⟩ ?_))
  refine xc 100 ent100 [.agg (o7A (xs.getD i op0) (aL B5 (xs.getD i op0).attrs c6))] (r6ins_any (xs.getD i op0) _ _ _ (Kd.C_below C8 (bg b10 g15 (Nat.le_refl _)))) ?_
  rintro e w18 ⟨rfl,b19⟩; refine⟨_,rfl,?_⟩
  by_cases c20:decide (insO (xs.getD i op0))=true
  ·rw[show (decide (insO (xs.getD i op0)):Bool)=true from by simpa using c20]
   refine xr0 1 [(13,bF)] [11,12] ?_
   refine nl (cf (sk (rg (xr1 2 [(14,.eq (i6 ((i:Int)+1)))] [(7,i6 ((i:Int)+1))] [13] (w6 ((i:Int)+1)) ?_))))
   refine nl ?_
   have B21:Below w.heap.size w w18:=(bt (bg (bt HB b10) g15 (HB).size) b19)
   refine⟨(i+1),by kernel_rfl,?_,?_⟩
   ·exact⟨by omega,fun t ht=>by by_cases e_:t=i; (· subst e_; exact of_decide_eq_true c20); (· exact hk0 t (by omega)),B21⟩
   (try dsimp only); omega
  rw[show (decide (insO (xs.getD i op0)):Bool)=false from by simpa using c20]
  refine xr0 1 [(13,bT)] [11,12] ?_
  refine nl (ct (sg (xe0 1 [(2,bF)] ?_)))
  refine nl (X_ret (rj [bF] hR_ ?_))
  have B22:Below w.heap.size w w18:=(bt (bg (bt HB b10) g15 (HB).size) b19)
  have hno_:¬insO (xs.getD i op0):=fun h_=>c20 (decide_eq_true h_)
  rw[isDoc_no (xs:=xs) (i:=i) (by omega) (fun h_=>hno_ (.inl h_)) (fun h_=>hno_ (.inr h_))]
  exact⟨rfl,B22⟩
 refine xr1 1 [(8,.eq bF)] [(8,bF)] [] (dF c1) ?_
 refine nl (sq (cf (X_exit (sg (xe0 1 [(2,bT)] ?_)))))
 refine nl (X_ret (rj [bT] hR_ ?_))
 rw[isDoc_yes (xs:=xs) (fun t ht=>hk0 t (by omega))]
 exact⟨rfl,HB⟩
namespace B
def cR (at4:List At)(r:Nat):CellA:=⟨(r:Int),ByteArray.empty,0,0,ByteArray.empty,at4⟩
noncomputable def came (o:OpA):List CellA:=if o.kind=2 then [⟨-1,o.text,o.vk,o.vn,o.vt,o.attrs⟩]else (U.sc o.text).map (cR o.attrs)
def pat (at4:List At)(c:CellA):CellA:=⟨c.rune,c.kind,c.vk,c.vn,c.vt,comp (cmpF false) c.attrs at4⟩
noncomputable def edit:List OpA→List CellA→Option (List CellA)
  | [],cs=>some cs
  | o::r,cs=>if o.kind=1∨o.kind=2 then (edit r cs).map (came o++·)else if (cs.length:Int)<o.count then none else if o.kind=3 then (edit r (cs.drop o.count.toNat)).map ((cs.take o.count.toNat).map (pat o.attrs)++·)else edit r (cs.drop o.count.toNat)
theorem ed_ins {o:OpA}(h:o.kind=1∨o.kind=2)(r:List OpA)(cs:List CellA):edit (o::r) cs=(edit r cs).map (came o++·):=if_pos h
theorem ed_few {o:OpA}(h:o.kind=3∨o.kind=4){cs:List CellA}(hc:(cs.length:Int)<o.count)(r:List OpA):edit (o::r) cs=none:=by
  unfold edit
  rw[if_neg (by omega),if_pos hc]
theorem ed_ret {o:OpA}(h:o.kind=3){cs:List CellA}(hc:¬(cs.length:Int)<o.count)(r:List OpA):edit (o::r) cs=(edit r (cs.drop o.count.toNat)).map ((cs.take o.count.toNat).map (pat o.attrs)++·):=by
  show (if _ then _ else _)=_
  rw[if_neg (by omega),if_neg hc,if_pos h]
theorem ed_del {o:OpA}(h:o.kind=4){cs:List CellA}(hc:¬(cs.length:Int)<o.count)(r:List OpA):edit (o::r) cs=edit r (cs.drop o.count.toNat):=by
  show (if _ then _ else _)=_
  rw[if_neg (by omega),if_neg hc,if_neg (by omega)]
theorem ed_congr {X Y:List OpA}(h:∀ cs,edit X cs=edit Y cs):∀ (p:List OpA) (cs:List CellA),edit (p++X) cs=edit (p++Y) cs
  | [],cs=>h cs
  | o::p,cs=>by
    have ih:=ed_congr h p
    rw[List.cons_append,List.cons_append]
    unfold edit
    rw[ih,ih]
theorem map_add {α β:Type}(f:α→β)(cs:List α)(n m:Nat):(cs.take (n+m)).map f=(cs.take n).map f++((cs.drop n).take m).map f:=by
  rw[←List.map_append,List.take_add]
theorem ed_jo {b a:OpA}(hb:pErr b=0)(ha:pErr a=0)(hm:meets b a)(hk:a.kind≠4)(r:List OpA)(cs:List CellA):edit (jo b a::r) cs=edit (b::a::r) cs:=by
  obtain⟨m1,m2,m3⟩:=hm
  rcases kind_of_ok ha with k|k|k|k
  · have kb:b.kind=1:=m1.trans k
    have kj:(jo b a).kind=1:=kb
    obtain⟨_,_,_,_,_,ub,_⟩:=ok_ins hb kb
    obtain⟨_,_,_,_,_,ua,_⟩:=ok_ins ha k
    obtain⟨_,sa⟩:=utf_app ub ua
    have e:came (jo b a)=came b++came a:=by
      unfold came
      rw[if_neg (by omega),if_neg (by omega),if_neg (by omega)]
      show (U.sc (b.text++a.text)).map (cR b.attrs)=_
      rw[sa,List.map_append,m3]
    rw[ed_ins (.inl kj),ed_ins (.inl kb),ed_ins (.inl k),e,Option.map_map]
    congr 1
    funext x
    exact List.append_assoc ..
  · exact absurd k m2
  · have kb:b.kind=3:=m1.trans k
    have kj:(jo b a).kind=3:=kb
    have h1:=count_of_ok hb (.inl kb)
    have h2:=count_of_ok ha (.inl k)
    have cj:(jo b a).count=b.count+a.count:=rfl
    by_cases c1:(cs.length:Int)<b.count
    · rw[ed_few (.inl kj) (by omega),ed_few (.inl kb) c1]
    · rw[ed_ret kb c1]
      have hl:(cs.drop b.count.toNat).length=cs.length-b.count.toNat:=List.length_drop ..
      by_cases c2:(cs.length:Int)<b.count+a.count
      · rw[ed_few (.inl kj) (by omega),ed_few (.inl k) (by omega)]; rfl
      · rw[ed_ret kj (by omega),ed_ret k (by omega),cj,show (b.count+a.count).toNat=b.count.toNat+a.count.toNat by omega,Option.map_map,←List.drop_drop,map_add]
        show Option.map (fun x=>(_++_)++x) _=_
        rw[show (jo b a).attrs=b.attrs from rfl,m3]
        congr 1
        funext x
        exact List.append_assoc ..
  · exact absurd k hk
theorem ed_push {X:List OpA}{a:OpA}(hX:badE X=0)(ha:pErr a=0)(hk:a.kind≠4)(r:List OpA)(cs:List CellA):edit (push X a++r) cs=edit (X++a::r) cs:=by
  rcases snoc_cases X with rfl|⟨Y,b,rfl⟩
  · rw[push_nil]; rfl
  · rw[push_snoc]
    by_cases hm:meets b a
    · rw[if_pos hm,List.append_assoc,List.append_assoc]
      exact ed_congr (fun cs=>ed_jo (bad_snoc.1 hX).2 ha hm hk r cs) Y cs
    · rw[if_neg hm,List.append_assoc]; rfl
theorem ed_two {g c:Int}(hg:0≤g)(hc:0≤c)(r:List OpA)(cs:List CellA):edit (gone (g+c)::r) cs=edit (gone g::gone c::r) cs:=by
  have cg:∀ n,(gone n).count=n:=fun _=>rfl
  have hl:(cs.drop g.toNat).length=cs.length-g.toNat:=List.length_drop ..
  by_cases c1:(cs.length:Int)<g
  · rw[ed_few (.inr rfl) (by rw[cg]; omega),ed_few (.inr rfl) (by rw[cg]; omega)]
  · rw[ed_del (o:=gone g) rfl (by rw[cg]; exact c1),cg]
    by_cases c2:(cs.length:Int)<g+c
    · rw[ed_few (.inr rfl) (by rw[cg]; omega),ed_few (.inr rfl) (by rw[cg]; omega)]
    · rw[ed_del (o:=gone (g+c)) rfl (by rw[cg]; omega),ed_del (o:=gone c) rfl (by rw[cg]; omega),cg,cg,show (g+c).toNat=g.toNat+c.toNat by omega,List.drop_drop]
theorem ed_swap {a:OpA}(ha:a.kind=1∨a.kind=2)(g:Int)(r:List OpA)(cs:List CellA):edit (a::gone g::r) cs=edit (gone g::a::r) cs:=by
  rw[ed_ins ha]
  by_cases c1:(cs.length:Int)<g
  · rw[ed_few (o:=gone g) (.inr rfl) c1,ed_few (o:=gone g) (.inr rfl) c1]; rfl
  · rw[ed_del (o:=gone g) rfl c1,ed_del (o:=gone g) rfl c1,ed_ins ha]
theorem ed_run :∀ xs:List OpA,badE xs=0→sB xs≤L→∀ r cs,edit (dels (run xs).1 (run xs).2++r) cs=edit (xs++r) cs:=by
  refine snoc_ind ?_ ?_
  · intro _ _ r cs
    show edit (dels [] 0++r) cs=_
    rw[show dels [] 0=[]from if_pos rfl]
  · intro xs a ih h hL r cs
    obtain⟨h1,h2⟩:=bad_snoc.1 h
    have hb:=opB_ok h2
    rw[sB_snoc]at hL
    have hi:=run_ok xs h1 (by omega)
    have ih:=ih h1 (by omega) (a::r) cs
    rw[List.append_assoc]
    show _=edit (xs++a::r) cs
    rw[←ih,run_snoc]
    have g0:=hi.g0
    have hsb:=hi.sb
    have hs:=sB_ok hi.good
    obtain⟨d1,d2,d3,d4⟩:=dels_ok hi.good hi.chain hi.last hi.g0 (by omega)
    generalize run xs=s at*
    unfold step
    by_cases k4:a.kind=4
    · rw[if_pos k4]
      have hc:=count_of_ok h2 (.inr k4)
      have ea:=ok_del h2 k4
      show edit (dels s.1 (s.2+a.count)++r) cs=_
      unfold dels
      rw[if_neg (by omega)]
      by_cases g1:s.2=0
      · rw[if_pos g1,g1,Int.zero_add,←ea,List.append_assoc]; rfl
      · rw[if_neg g1,List.append_assoc,List.append_assoc]
        refine ed_congr (fun cs=>?_) s.1 cs
        show edit (gone (s.2+a.count)::r) cs=edit (gone s.2::a::r) cs
        rw[ed_two g0 (by omega),←ea]
    · rw[if_neg k4]
      by_cases k3:a.kind=3
      · rw[if_pos k3]
        show edit (dels (push (dels s.1 s.2) a) 0++r) cs=_
        rw[show dels (push (dels s.1 s.2) a) 0=push (dels s.1 s.2) a from if_pos rfl]
        exact ed_push d1 h2 k4 r cs
      · rw[if_neg k3]
        have kk:a.kind=1∨a.kind=2:=by have:=kind_of_ok h2; omega
        show edit (dels (push s.1 a) s.2++r) cs=_
        unfold dels
        by_cases g1:s.2=0
        · rw[if_pos g1,if_pos g1]
          exact ed_push hi.good h2 k4 r cs
        · rw[if_neg g1,if_neg g1,List.append_assoc,List.append_assoc]
          show edit (push s.1 a++gone s.2::r) cs=edit (s.1++gone s.2::a::r) cs
          rw[ed_push hi.good h2 k4]
          exact ed_congr (fun cs=>ed_swap kk _ r cs) s.1 cs
theorem ed_fin {a:OpA}(hp:plainR a):∀ (ys:List OpA) (cs:List CellA),(∀ c∈cs,pat [] c=c)→∀ x,edit (ys++[a]) cs=some x→edit ys cs=some x
  | [],cs,hc,x,h=>by
    rw[List.nil_append]at h
    by_cases c1:(cs.length:Int)<a.count
    · rw[ed_few (.inl hp.1) c1]at h; cases h
    · rw[ed_ret hp.1 c1,List.eq_nil_of_length_eq_zero hp.2]at h
      have e:(cs.take a.count.toNat).map (pat [])=cs.take a.count.toNat:=by
        refine(List.map_congr_left (g:=id) fun c hx=>hc c (List.mem_of_mem_take hx)).trans (List.map_id _)
      rw[e]at h
      have h:some (cs.take a.count.toNat++cs.drop a.count.toNat)=some x:=h
      rw[List.take_append_drop]at h
      exact h
  | o::ys,cs,hc,x,h=>by
    rw[List.cons_append]at h
    by_cases k1:o.kind=1∨o.kind=2
    · rw[ed_ins k1]at h ⊢
      obtain⟨y,hy,e⟩:=Option.map_eq_some_iff.1 h
      rw[ed_fin hp ys cs hc y hy]
      exact congrArg some e
    · unfold edit at h ⊢
      rw[if_neg k1]at h ⊢
      by_cases c1:(cs.length:Int)<o.count
      · rw[if_pos c1]at h; cases h
      · rw[if_neg c1]at h ⊢
        have hd:∀ c∈cs.drop o.count.toNat,pat [] c=c:=fun c hx=>hc c (List.mem_of_mem_drop hx)
        by_cases k3:o.kind=3
        · rw[if_pos k3]at h ⊢
          obtain⟨y,hy,e⟩:=Option.map_eq_some_iff.1 h
          rw[ed_fin hp ys _ hd y hy]
          exact congrArg some e
        · rw[if_neg k3]at h ⊢
          exact ed_fin hp ys _ hd x h
theorem merge_nil :∀ xs:List At,merge xs []=xs.map fun x=>(some x,none)
  | []=>by unfold merge; rfl
  | x::a=>by unfold merge; rw[merge_nil a]; rfl
theorem pat_nil {c:CellA}(h:chkA false c.attrs=0):pat [] c=c:=by
  have hg:=((chkA_good false c.attrs).1 h).1
  have e:comp (cmpF false) c.attrs []=c.attrs:=by
    unfold comp
    rw[merge_nil,List.filterMap_map]
    have:∀ l:List At,(∀ x∈l,x∈c.attrs)→l.filterMap (cmpF false ∘ fun x=>(some x,none))=l:=by
      intro l
      induction l with
      | nil=>intro _; rfl
      | cons x l ih=>
        intro hx
        have h1:=(hg x (hx x (by simp))).2
        have h2:isNull x=false:=h1.resolve_left (by simp)
        rw[List.filterMap_cons_some (b:=x) (by show (if false=true∨isNull x=false then some x else none)=some x; rw[if_pos (.inr h2)]),ih (fun y hy=>hx y (by simp[hy]))]
    exact this c.attrs fun _ h=>h
  unfold pat
  rw[e]
theorem ed_can {xs:List OpA}(h:(bOf xs).2=0){cs:List CellA}(hc:∀ c∈cs,chkA false c.attrs=0){x:List CellA}(he:edit xs cs=some x):edit (can xs) cs=some x:=by
  obtain⟨h1,h2,_⟩:=bOf_ok h
  have hr:=ed_run xs h1 h2 [] cs
  rw[List.append_nil,List.append_nil,he]at hr
  unfold can
  rcases snoc_cases (dels (run xs).1 (run xs).2)with e|⟨ys,a,e⟩
  · rw[e]at hr ⊢; exact hr
  · rw[e]at hr ⊢
    rw[fin_snoc]
    by_cases hp:plainR a
    · rw[if_pos hp]; exact ed_fin hp ys cs (fun c hx=>pat_nil (hc c hx)) x hr
    · rw[if_neg hp]; exact hr
section
variable {xs : List OpA} {cs : List CellA} {i pt : Nat} {out : List CellA}
end
end B
theorem ins_ref {o:OpA}(h:pErr o=0)(hk:o.kind=1∨o.kind=2):refuseP o=0:=by
  have h1:=B.has_ok h
  unfold pErr at h
  rwa [h1,if_neg (by simp),if_pos hk]at h
theorem doc_ref {xs:List OpA}(hb:badE xs=0)(hd:isDoc xs=true):∀ t,t<xs.length→refuseP (xs.getD t op0)=0:=
  fun t ht=>ins_ref (badE_getD hb ht) (isDoc_at hd ht)
theorem cellsAll_cons (o:OpA)(r:List OpA):cellsAll (o::r)=cellsP o++cellsAll r:=by unfold cellsAll; rw[List.flatMap_cons]
theorem doc_of_mem {xs:List OpA}(h:∀ o∈xs,o.kind=1∨o.kind=2):isDoc xs=true:=isDoc_yes fun t ht=>h _ (getD_mem op0 ht)
theorem push_ins {P:List OpA}{o:OpA}(hP:∀ x∈P,x.kind=1∨x.kind=2)(ho:o.kind=1∨o.kind=2):∀ x∈B.push P o,x.kind=1∨x.kind=2:=by
  rcases B.snoc_cases P with rfl|⟨ys,a,rfl⟩
  · rw[B.push_nil]; intro x hx; rw[List.mem_singleton.1 hx]; exact ho
  · rw[B.push_snoc]
    have ha:=hP a (List.mem_append_right _ (List.mem_singleton_self a))
    split
    · intro x hx
      rcases List.mem_append.1 hx with hx|hx
      · exact hP x (List.mem_append_left _ hx)
      · rw[List.mem_singleton.1 hx]; exact ha
    · intro x hx
      rcases List.mem_append.1 hx with hx|hx
      · exact hP x hx
      · rw[List.mem_singleton.1 hx]; exact ho
theorem fold_ins :∀ (os P:List OpA),(∀ x∈P,x.kind=1∨x.kind=2)→(∀ x∈os,x.kind=1∨x.kind=2)→∀ x∈os.foldl B.push P,x.kind=1∨x.kind=2
  | [],P,hP,_=>hP
  | o::r,P,hP,h=>fold_ins r _ (push_ins hP (h o List.mem_cons_self)) fun x hx=>h x (List.mem_cons_of_mem _ hx)
theorem can_ins {xs:List OpA}(hd:∀ o∈xs,o.kind=1∨o.kind=2):∀ o∈B.can xs,o.kind=1∨o.kind=2:=by
  have h:B.run xs=(xs.foldl B.push [],0):=B.foldl_ins xs ([],0) hd
  intro o ho
  unfold B.can at ho
  rw[h]at ho
  have h1:=B.fin_sub _ o ho
  rw[show B.dels (xs.foldl B.push []) 0=xs.foldl B.push []from if_pos rfl]at h1
  exact fold_ins xs [] (fun x hx=>by cases hx) hd o h1
theorem ed_doc :∀ xs:List OpA,(∀ o∈xs,o.kind=1∨o.kind=2)→B.edit xs []=some (xs.flatMap B.came)
  | [],_=>rfl
  | o::r,h=>by
    rw[B.ed_ins (h o List.mem_cons_self),ed_doc r fun x hx=>h x (List.mem_cons_of_mem _ hx),List.flatMap_cons]; rfl
theorem cells_can {xs:List OpA}(h:(B.bOf xs).2=0)(hd:∀ o∈xs,o.kind=1∨o.kind=2):cellsAll (B.can xs)=cellsAll xs:=by
  have h1:=B.ed_can h (cs:=[]) (fun c hc=>by cases hc) (ed_doc xs hd)
  rw[ed_doc _ (can_ins hd)]at h1
  exact Option.some.inj h1
theorem sc_one {r:Int}(h:U.vz r):(U.sc (runesBytes [r])).map (fun(k:Nat)=>(k:Int))=[r]:=(U.text_utf (B.vz1 h)).2
theorem cells_op {c:CellA}(h:B.cErr c=0):cellsP (B.opC c)=[c]:=by
  by_cases hr:c.rune= -1
  · rw[B.op_emb hr,cellsP_2 rfl]; cases c; simp only at *; subst hr; rfl
  · obtain⟨h1,h2,h3,h4⟩:=B.c_txt h hr
    rw[B.op_txt hr]
    have e:=sc_one h1
    have e0:cellsP (⟨1,runesBytes [c.rune],0,0,⟨#[]⟩,0,c.attrs⟩:OpA)=(U.sc (runesBytes [c.rune])).map (cellR c.attrs):=if_neg (by show ¬(1:Int)=2; decide)
    rw[e0]
    obtain⟨v1,v2,v3⟩:=B.val0 (o:=⟨0,⟨#[]⟩,c.vk,c.vn,c.vt,0,[]⟩) h3
    generalize U.sc (runesBytes [c.rune])=l at e
    match l,e with
    | [],e=>cases e
    | _::_::_,e=>exact absurd (congrArg List.length e) (by simp)
    | [k],e=>
      have ek:(k:Int)=c.rune:=(List.cons.inj e).1
      show [cellR c.attrs k]=[c]
      have:cellR c.attrs k=c:=by
        show (⟨(k:Int),_,0,0,_,c.attrs⟩:CellA)=c
        cases c; simp only at *; subst ek h2 v1 v2 v3; rfl
      rw[this]
theorem cells_ops :∀ cs:List CellA,(∀ c∈cs,B.cErr c=0)→cellsAll (cs.map B.opC)=cs
  | [],_=>rfl
  | c::r,h=>by
    rw[List.map_cons,cellsAll_cons,cells_op (h c List.mem_cons_self),cells_ops r fun x hx=>h x (List.mem_cons_of_mem _ hx)]; rfl
theorem ops_ins (cs:List CellA):∀ o∈cs.map B.opC,o.kind=1∨o.kind=2:=fun o ho=>by
  obtain⟨c,_,rfl⟩:=List.mem_map.1 ho
  exact B.op_kind c
theorem cells_doc {cs:List CellA}(h:(B.cOf cs).2=0)(hn:cs.length≤1048576):isDoc (B.can (cs.map B.opC))=true∧cellsAll (B.can (cs.map B.opC))=cs:=by
  have hg:=B.cOf_ok h
  exact⟨doc_of_mem (can_ins (ops_ins cs)),by rw[cells_can (by rw[B.doc_of hg hn]) (ops_ins cs),cells_ops cs hg]⟩
end Go.Proofs.YtgphmfnkeolbcaaGreatDoor
