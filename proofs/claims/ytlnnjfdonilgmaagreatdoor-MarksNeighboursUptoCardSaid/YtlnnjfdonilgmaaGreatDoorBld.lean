import Derived.Test.YtlnnjfdonilgmaaGreatDoorB1
/- Builders: what is gathered, by definition; canonical lists. No condition. -/

set_option linter.unusedVariables false
set_option linter.unusedSimpArgs false
set_option maxRecDepth 100000
namespace Go.Proofs.YtlnnjfdonilgmaaGreatDoor
open Go Go.RowKit Go.Proofs.YtlnnjfdonilgmaaGreatDoorW.PrintWords RX
namespace B
abbrev L :Int:=1099511627776
theorem snoc_ind {α:Type}{p:List α→Prop}(h0:p [])(h1:∀ xs a,p xs→p (xs++[a])):∀ xs,p xs:=by
  have:∀ n (xs:List α),xs.length=n→p xs:=by
    intro n
    induction n with
    | zero=>intro xs h; rw[List.length_eq_zero_iff.1 h]; exact h0
    | succ n ih=>
      intro xs h
      rcases List.eq_nil_or_concat xs with rfl|⟨ys,a,rfl⟩
      · simp at h
      · rw[List.concat_eq_append]at h ⊢
        rw[List.length_append,List.length_singleton]at h
        exact h1 _ _ (ih ys (by omega))
  exact fun xs=>this _ xs rfl
theorem snoc_cases {α:Type}(xs:List α):xs=[]∨∃ ys a,xs=ys++[a]:=by
  rcases List.eq_nil_or_concat xs with h|⟨ys,a,h⟩
  · exact .inl h
  · exact .inr ⟨ys,a,by rw[h,List.concat_eq_append]⟩
def lst (xs:List OpA):OpA:=xs.getD (xs.length-1) op0
theorem lst_snoc (ys:List OpA)(a:OpA):lst (ys++[a])=a:=by
  unfold lst
  rw[List.length_append,List.length_singleton,Nat.add_sub_cancel,List.getD_eq_getElem?_getD,List.getElem?_append_right (Nat.le_refl _),Nat.sub_self]; rfl
def jo (a b:OpA):OpA:=⟨a.kind,a.text++b.text,a.vk,a.vn,a.vt,a.count+b.count,a.attrs⟩
def meets (a o:OpA):Prop:=a.kind=o.kind∧o.kind≠2∧a.attrs=o.attrs
instance (a o:OpA):Decidable (meets a o):=by unfold meets; exact inferInstance
instance (o:OpA):Decidable (plainR o):=by unfold plainR; exact inferInstance
def push (xs:List OpA)(o:OpA):List OpA:=if xs.length≠0∧meets (lst xs) o then xs.set (xs.length-1) (jo (lst xs) o)else xs++[o]
theorem push_nil (o:OpA):push [] o=[o]:=rfl
theorem push_snoc (ys:List OpA)(a o:OpA):push (ys++[a]) o=if meets a o then ys++[jo a o]else (ys++[a])++[o]:=by
  unfold push
  rw[lst_snoc]
  by_cases h:meets a o
  · rw[if_pos ⟨by simp,h⟩,if_pos h,List.length_append,List.length_singleton,Nat.add_sub_cancel,List.set_append_right _ _ (Nat.le_refl _),Nat.sub_self]; rfl
  · rw[if_neg (fun k=>h k.2),if_neg h]
theorem push_far {xs:List OpA}{o:OpA}(h:xs.length=0∨¬meets (lst xs) o):push xs o=xs++[o]:=by
  unfold push
  rw[if_neg (fun k=>h.elim k.1 (fun h=>h k.2))]
def gone (n:Int):OpA:=⟨4,ByteArray.empty,0,0,ByteArray.empty,n,[]⟩
def dels (xs:List OpA)(g:Int):List OpA:=if g=0 then xs else xs++[gone g]
abbrev St :=List OpA×Int
def step (s:St)(o:OpA):St:=if o.kind=4 then (s.1,s.2+o.count)else if o.kind=3 then (push (dels s.1 s.2) o,0)else (push s.1 o,s.2)
def run (xs:List OpA):St:=xs.foldl step ([],0)
theorem run_snoc (xs:List OpA)(o:OpA):run (xs++[o])=step (run xs) o:=by unfold run; rw[List.foldl_append]; rfl
def fin (xs:List OpA):List OpA:=if xs.length≠0∧plainR (lst xs)then xs.take (xs.length-1)else xs
theorem fin_snoc (ys:List OpA)(a:OpA):fin (ys++[a])=if plainR a then ys else ys++[a]:=by
  unfold fin
  rw[lst_snoc]
  by_cases h:plainR a
  · rw[if_pos ⟨by simp,h⟩,if_pos h,List.length_append,List.length_singleton,Nat.add_sub_cancel,List.take_left]
  · rw[if_neg (fun k=>h k.2),if_neg h]
def can (xs:List OpA):List OpA:=fin (dels (run xs).1 (run xs).2)

theorem has_ok {o:OpA}(h:pErr o=0):hasP o=true:=by
  unfold pErr at h
  cases hh:hasP o with
  | true=>rfl
  | false=>rw[hh,if_pos rfl]at h; cases h
theorem val0 {o:OpA}(h:(o.vk,o.vn,o.vt)=pl0):o.vk=0∧o.vn=0∧o.vt=⟨#[]⟩:=by
  unfold pl0 at h
  simpa using h
theorem ok_ret {o:OpA}(h:pErr o=0)(hk:o.kind=3):o=⟨3,⟨#[]⟩,0,0,⟨#[]⟩,o.count,o.attrs⟩∧chkA true o.attrs=0:=by
  have h1:=has_ok h
  have hc:=count_of_ok h (.inl hk)
  unfold hasP at h1
  rw[if_neg (by omega),if_neg (by omega),if_pos hk,Bool.and_eq_true,decide_eq_true_eq,decide_eq_true_eq]at h1
  obtain⟨a,b,c⟩:=val0 h1.1
  refine⟨?_,?_⟩
  · have h2:=h1.2
    cases o
    simp only at*
    subst hk a b c h2
    rfl
  · unfold pErr at h
    rw[has_ok (by unfold pErr; exact h),if_neg (by simp),if_neg (by omega),if_neg (by omega),if_neg (by omega),if_neg (by omega)]at h
    exact h
theorem ok_del {o:OpA}(h:pErr o=0)(hk:o.kind=4):o=gone o.count:=by
  have h1:=has_ok h
  unfold hasP at h1
  rw[if_neg (by omega),if_neg (by omega),if_neg (by omega),if_pos hk,Bool.and_eq_true,Bool.and_eq_true,decide_eq_true_eq,decide_eq_true_eq,decide_eq_true_eq]at h1
  obtain⟨a,b,c⟩:=val0 h1.1
  have h2:=h1.2.1
  have h3:=List.eq_nil_of_length_eq_zero h1.2.2
  cases o
  simp only at*
  subst hk a b c h2 h3
  rfl
theorem ok_gone {n:Int}(h0:1≤n)(h1:n≤L):pErr (gone n)=0:=by
  have e:hasP (gone n)=true:=by unfold hasP gone; simp[pl0]; rfl
  unfold pErr
  rw[e,if_neg (by simp),if_neg (by simp[gone]),if_neg (by show ¬n<1; omega),if_neg (by show ¬1099511627776<n; have:L=1099511627776:=rfl; omega)]
  exact if_pos rfl
theorem ok_mkR {n:Int}{at4:List At}(h0:1≤n)(h1:n≤L)(hc:chkA true at4=0):pErr ⟨3,⟨#[]⟩,0,0,⟨#[]⟩,n,at4⟩=0:=by
  unfold pErr hasP
  simp only[pl0]
  rw[if_neg (by simp),if_neg (by simp),if_neg (by omega),if_neg (by have:L=1099511627776:=rfl; omega),if_neg (by simp)]
  exact hc
theorem ok_ins {o:OpA}(h:pErr o=0)(hk:o.kind=1):o.count=0∧o.vk=0∧o.vn=0∧o.vt=⟨#[]⟩∧o.text≠⟨#[]⟩∧U.utf o.text∧chkA false o.attrs=0:=by
  have h1:=has_ok h
  unfold hasP at h1
  rw[if_pos hk,Bool.and_eq_true,decide_eq_true_eq,decide_eq_true_eq]at h1
  obtain⟨a,b,c⟩:=val0 h1.1
  have h2:refuseP o=0:=by
    unfold pErr at h
    rwa [has_ok (by unfold pErr; exact h),if_neg (by simp),if_pos (.inl hk)]at h
  unfold refuseP at h2
  rw[if_neg (by omega),if_neg (by omega)]at h2
  by_cases h3:o.kind=1∧(o.text=⟨#[]⟩∨(o.vk,o.vn,o.vt)≠pl0)
  · rw[if_pos h3]at h2; cases h2
  · rw[if_neg h3,if_neg (by omega)]at h2
    by_cases h4:(uchk o.text).2=false
    · rw[if_pos h4]at h2; cases h2
    · rw[if_neg h4,if_neg (by omega)]at h2
      refine⟨h1.2,a,b,c,fun e=>h3 ⟨hk,.inl e⟩,?_,h2⟩
      rw[U.uchk_eq]at h4
      show U.tl o.text=[]
      simpa using h4
theorem ok_mkT {t:ByteArray}{at4:List At}(h0:t≠⟨#[]⟩)(hu:U.utf t)(hc:chkA false at4=0):pErr ⟨1,t,0,0,⟨#[]⟩,0,at4⟩=0:=by
  unfold pErr hasP refuseP
  simp only[pl0]
  have hu':U.tl t=[]:=hu
  rw[if_neg (by simp),if_pos (by simp),if_neg (by simp),if_neg (by simp),if_neg (by simp[h0]),if_neg (by simp),if_neg (by rw[U.uchk_eq]; simpa using hu'),if_neg (by simp)]
  exact hc
theorem bl_append (s t:ByteArray):U.bl (s++t)=U.bl s++U.bl t:=by simp[U.bl]
theorem size_app (s t:ByteArray):(s++t).size=s.size+t.size:=by rw[←U.bl_size,bl_append,List.length_append,U.bl_size,U.bl_size]
theorem utf_app {s t:ByteArray}(hs:U.utf s)(ht:U.utf t):U.utf (s++t)∧U.sc (s++t)=U.sc s++U.sc t:=
  U.utf_of (fun r hr=>(List.mem_append.1 hr).elim (U.sc_ok s r) (U.sc_ok t r)) (by rw[bl_append,U.utf_flat hs,U.utf_flat ht,U.flat_append])
theorem app_ne {s t:ByteArray}(hs:s≠⟨#[]⟩):s++t≠⟨#[]⟩:=fun e=>hs (U.bl_inj (by
  have h:=congrArg U.bl e
  rw[bl_append]at h
  exact(List.append_eq_nil_iff.1 h).1))
theorem app_empty (s:ByteArray):s++(⟨#[]⟩:ByteArray)=s:=U.bl_inj (by rw[bl_append]; exact List.append_nil _)
theorem opB_ins {o:OpA}(h:o.kind=1∨o.kind=2):opB o=0:=by unfold opB; rw[if_neg (by omega)]
theorem opB_cnt {o:OpA}(h:o.kind=3∨o.kind=4):opB o=o.count:=by unfold opB opLen; rw[if_pos h,if_neg (by omega),if_neg (by omega)]
theorem opR_del {o:OpA}(h:o.kind=4):opR o=0:=if_pos h
theorem opR_ret {o:OpA}(h:o.kind=3):opR o=o.count:=by unfold opR opLen; rw[if_neg (by omega),if_neg (by omega),if_neg (by omega)]
theorem opR_txt {o:OpA}(h:o.kind=1):opR o=((U.sc o.text).length:Int):=by unfold opR opLen; rw[if_neg (by omega),if_pos h]
theorem opR_emb {o:OpA}(h:o.kind=2):opR o=1:=by unfold opR opLen; rw[if_neg (by omega),if_neg (by omega),if_pos h]
theorem opB_gone (n:Int):opB (gone n)=n:=opB_cnt (.inr rfl)
theorem opR_gone (n:Int):opR (gone n)=0:=opR_del rfl

theorem jo_ok {a o:OpA}(ha:pErr a=0)(ho:pErr o=0)(hm:meets a o)(hk:o.kind≠4)(hL:o.kind=3→a.count+o.count≤L):pErr (jo a o)=0∧opB (jo a o)=opB a+opB o∧opR (jo a o)=opR a+opR o:=by
  obtain⟨m1,m2,m3⟩:=hm
  rcases kind_of_ok ho with k|k|k|k
  · have ka:a.kind=1:=m1.trans k
    have kj:(jo a o).kind=1:=ka
    obtain⟨c1,v1,v2,v3,t1,u1,s1⟩:=ok_ins ha ka
    obtain⟨c2,_,_,_,t2,u2,s2⟩:=ok_ins ho k
    obtain⟨ua,sa⟩:=utf_app u1 u2
    have e:jo a o=⟨1,a.text++o.text,0,0,⟨#[]⟩,0,a.attrs⟩:=by unfold jo; rw[ka,v1,v2,v3,c1,c2]; rfl
    refine⟨by rw[e]; exact ok_mkT (app_ne t1) ua s1,?_,?_⟩
    · rw[opB_ins (.inl kj),opB_ins (.inl ka),opB_ins (.inl k)]; rfl
    · rw[opR_txt kj,opR_txt ka,opR_txt k]
      show ((U.sc (a.text++o.text)).length:Int)=_
      rw[sa,List.length_append]; omega
  · exact absurd k m2
  · have ka:a.kind=3:=m1.trans k
    have kj:(jo a o).kind=3:=ka
    obtain⟨e1,s1⟩:=ok_ret ha ka
    obtain⟨e2,s2⟩:=ok_ret ho k
    have h1:=count_of_ok ha (.inl ka)
    have h2:=count_of_ok ho (.inl k)
    have e:jo a o=⟨3,⟨#[]⟩,0,0,⟨#[]⟩,a.count+o.count,a.attrs⟩:=by
      rw[e1,e2]; unfold jo; simp only; rw[app_empty]
    refine⟨by rw[e]; exact ok_mkR (by omega) (hL k) s1,?_,?_⟩
    · rw[opB_cnt (.inl kj),opB_cnt (.inl ka),opB_cnt (.inl k)]; rfl
    · rw[opR_ret kj,opR_ret ka,opR_ret k]; rfl
  · exact absurd k hk
theorem fits_left {a b c:OpA}(h1:b.kind=c.kind)(h2:b.attrs=c.attrs):fitsP a b=fitsP a c:=by unfold fitsP; rw[h1,h2]
theorem not_meets {a b:OpA}(hk:a.kind≠4):¬meets a b↔fitsP a b=true:=by
  unfold meets fitsP
  rw[if_neg hk,decide_eq_true_eq]
  constructor
  · intro h
    by_cases h1:a.kind=b.kind
    · by_cases h2:a.kind=2
      · exact .inr (.inl h2)
      · exact .inr (.inr fun e=>h ⟨h1,by omega,e⟩)
    · exact .inl h1
  · rintro h ⟨h1,h2,h3⟩
    rcases h with h|h|h
    · exact h h1
    · omega
    · exact h h3

theorem getD_snoc {ys:List OpA}{a:OpA}{i:Nat}(h:i<ys.length):(ys++[a]).getD i op0=ys.getD i op0:=by
  rw[List.getD_eq_getElem?_getD,List.getD_eq_getElem?_getD,List.getElem?_append_left h]
theorem getD_end {ys:List OpA}{a:OpA}:(ys++[a]).getD ys.length op0=a:=by
  rw[List.getD_eq_getElem?_getD,List.getElem?_append_right (Nat.le_refl _),Nat.sub_self]; rfl
theorem chain_nil :Chain []:=fun i h=>by simp at h
theorem chain_snoc {ys:List OpA}{a:OpA}:Chain (ys++[a])↔Chain ys∧(ys.length≠0→fitsP (lst ys) a=true):=by
  constructor
  · intro h
    refine⟨fun i hi=>?_,fun h0=>?_⟩
    · have:=h i (by rw[List.length_append]; omega)
      rwa [getD_snoc (by omega),getD_snoc hi]at this
    · have:=h (ys.length-1) (by rw[List.length_append,List.length_singleton]; omega)
      rwa [getD_snoc (by omega),show ys.length-1+1=ys.length by omega,getD_end]at this
  · rintro⟨h1,h2⟩ i hi
    rw[List.length_append,List.length_singleton]at hi
    by_cases hl:i+1<ys.length
    · rw[getD_snoc (by omega),getD_snoc hl]; exact h1 i hl
    · have e:i+1=ys.length:=by omega
      rw[getD_snoc (by omega),e,getD_end]
      have:=h2 (by omega)
      unfold lst at this
      rwa [show ys.length-1=i by omega]at this
theorem bad_snoc {ys:List OpA}{a:OpA}:badE (ys++[a])=0↔badE ys=0∧pErr a=0:=by
  rw[badE_mem,badE_mem]
  constructor
  · exact fun h=>⟨fun o ho=>h o (List.mem_append_left _ ho),h a (by simp)⟩
  · rintro⟨h1,h2⟩ o ho
    rcases List.mem_append.1 ho with h|h
    · exact h1 o h
    · rw[List.mem_singleton.1 h]; exact h2
theorem sB_snoc (ys:List OpA)(a:OpA):sB (ys++[a])=sB ys+opB a:=by unfold sB; rw[sumI_append]; simp[sumI]
theorem sR_snoc (ys:List OpA)(a:OpA):sR (ys++[a])=sR ys+opR a:=by unfold sR; rw[sumI_append]; simp[sumI]
theorem len_snoc {ys:List OpA}{a:OpA}:(ys++[a]).length≠0:=by simp

theorem push_ok {xs:List OpA}{o:OpA}(hg:badE xs=0)(hc:Chain xs)(ho:pErr o=0)(hk:o.kind≠4)(hl:xs.length=0∨(lst xs).kind≠4∨o.kind=3)(hL:sB xs+opB o≤L):
    badE (push xs o)=0∧Chain (push xs o)∧(push xs o).length≠0∧(lst (push xs o)).kind=o.kind∧sB (push xs o)=sB xs+opB o∧sR (push xs o)=sR xs+opR o:=by
  rcases snoc_cases xs with rfl|⟨ys,a,rfl⟩
  · rw[push_nil]
    refine⟨by rw[←List.nil_append [o]]; exact bad_snoc.2 ⟨rfl,ho⟩,fun i h=>by simp at h,by simp,rfl,?_,?_⟩
    · exact sB_snoc [] o
    · exact sR_snoc [] o
  · obtain⟨g1,g2⟩:=bad_snoc.1 hg
    obtain⟨c1,c2⟩:=chain_snoc.1 hc
    rw[lst_snoc]at hl
    rw[push_snoc]
    have hs:=sB_ok g1
    rw[sB_snoc]at hL
    by_cases hm:meets a o
    · rw[if_pos hm]
      obtain⟨j1,j2,j3⟩:=jo_ok g2 ho hm hk (fun k=>by
        have ka:a.kind=3:=hm.1.trans k
        rw[opB_cnt (.inl ka),opB_cnt (.inl k)]at hL
        omega)
      refine⟨bad_snoc.2 ⟨g1,j1⟩,chain_snoc.2 ⟨c1,fun h=>by rw[fits_left (b:=jo a o) (c:=a) rfl rfl]; exact c2 h⟩,len_snoc,by rw[lst_snoc]; exact hm.1,?_,?_⟩
      · rw[sB_snoc,sB_snoc,j2]; omega
      · rw[sR_snoc,sR_snoc,j3]; omega
    · rw[if_neg hm]
      refine⟨bad_snoc.2 ⟨hg,ho⟩,chain_snoc.2 ⟨hc,fun _=>?_⟩,len_snoc,by rw[lst_snoc],sB_snoc _ _,sR_snoc _ _⟩
      rw[lst_snoc]
      by_cases h4:a.kind=4
      · unfold fitsP; rw[if_pos h4,decide_eq_true_eq]; rcases hl with h|h|h
        · simp at h
        · exact absurd h4 h
        · exact h
      · exact(not_meets h4).1 hm
structure Inv (xs:List OpA) (s:St):Prop where
  good:badE s.1=0
  chain:Chain s.1
  last:s.1.length=0∨(lst s.1).kind≠4
  g0:0≤s.2
  sb:sB s.1+s.2=sB xs
  sr:sR s.1=sR xs
theorem dels_ok {ps:List OpA}{g:Int}(hg:badE ps=0)(hc:Chain ps)(hl:ps.length=0∨(lst ps).kind≠4)(h0:0≤g)(hL:sB ps+g≤L):
    badE (dels ps g)=0∧Chain (dels ps g)∧sB (dels ps g)=sB ps+g∧sR (dels ps g)=sR ps:=by
  have hs:=sB_ok hg
  unfold dels
  by_cases h:g=0
  · rw[if_pos h]; exact⟨hg,hc,by omega,rfl⟩
  · rw[if_neg h]
    refine⟨bad_snoc.2 ⟨hg,ok_gone (by omega) (by omega)⟩,chain_snoc.2 ⟨hc,fun hn=>?_⟩,by rw[sB_snoc,opB_gone],by rw[sR_snoc,opR_gone]; omega⟩
    have h4:(lst ps).kind≠4:=hl.resolve_left hn
    refine(not_meets h4).1 fun k=>h4 k.1
theorem step_ok {xs:List OpA}{s:St}{o:OpA}(h:Inv xs s)(ho:pErr o=0)(hL:sB xs+opB o≤L):Inv (xs++[o]) (step s o):=by
  have hb:=opB_ok ho
  have hsb:=h.sb
  have hsr:=h.sr
  have hg0:=h.g0
  unfold step
  by_cases k4:o.kind=4
  · rw[if_pos k4]
    have h1:=opB_cnt (.inr k4)
    refine⟨h.good,h.chain,h.last,?_,?_,?_⟩
    · show 0≤s.2+o.count; omega
    · show sB s.1+(s.2+o.count)=_; rw[sB_snoc]; omega
    · show sR s.1=_; rw[sR_snoc,opR_del k4]; omega
  · rw[if_neg k4]
    by_cases k3:o.kind=3
    · rw[if_pos k3]
      obtain⟨d1,d2,d3,d4⟩:=dels_ok h.good h.chain h.last h.g0 (by omega)
      obtain⟨p1,p2,p3,p4,p5,p6⟩:=push_ok d1 d2 ho k4 (.inr (.inr k3)) (by omega)
      refine⟨p1,p2,.inr (by rw[p4]; exact k4),Int.le_refl _,?_,?_⟩
      · show sB (push _ o)+0=_; rw[sB_snoc]; omega
      · show sR (push _ o)=_; rw[sR_snoc]; omega
    · rw[if_neg k3]
      have kk:o.kind=1∨o.kind=2:=by have:=kind_of_ok ho; omega
      have hb0:=opB_ins kk
      obtain⟨p1,p2,p3,p4,p5,p6⟩:=push_ok h.good h.chain ho k4 (h.last.imp_right .inl) (by omega)
      refine⟨p1,p2,.inr (by rw[p4]; exact k4),hg0,?_,?_⟩
      · show sB (push _ o)+s.2=_; rw[sB_snoc]; omega
      · show sR (push _ o)=_; rw[sR_snoc]; omega
theorem inv_nil :Inv [] ([],0):=⟨rfl,chain_nil,.inl rfl,Int.le_refl _,rfl,rfl⟩
theorem run_ok :∀ (xs:List OpA),badE xs=0→sB xs≤L→Inv xs (run xs):=by
  refine snoc_ind ?_ ?_
  · intro _ _; exact inv_nil
  · intro xs a ih h hL
    obtain⟨h1,h2⟩:=bad_snoc.1 h
    have hb:=opB_ok h2
    rw[sB_snoc]at hL
    rw[run_snoc]
    exact step_ok (ih h1 (by omega)) h2 hL
theorem fin_ok {ps:List OpA}(hg:badE ps=0)(hc:Chain ps):badE (fin ps)=0∧Chain (fin ps)∧((fin ps).length=0∨¬plainR (lst (fin ps)))∧sB (fin ps)≤sB ps∧sR (fin ps)≤sR ps∧sR (fin ps)-sB (fin ps)=sR ps-sB ps:=by
  rcases snoc_cases ps with rfl|⟨ys,a,rfl⟩
  · exact⟨rfl,chain_nil,.inl rfl,Int.le_refl _,Int.le_refl _,rfl⟩
  · obtain⟨g1,g2⟩:=bad_snoc.1 hg
    obtain⟨c1,c2⟩:=chain_snoc.1 hc
    rw[fin_snoc]
    by_cases h:plainR a
    · rw[if_pos h,sB_snoc,sR_snoc,opB_cnt (.inl h.1),opR_ret h.1]
      have h1:=count_of_ok g2 (.inl h.1)
      refine⟨g1,c1,?_,by omega,by omega,by omega⟩
      by_cases h0:ys.length=0
      · exact .inl h0
      · refine .inr fun hp=>?_
        have hf:=c2 h0
        unfold fitsP at hf
        rw[if_neg (by rw[hp.1]; decide),decide_eq_true_eq]at hf
        rcases hf with hf|hf|hf
        · exact hf (hp.1.trans h.1.symm)
        · rw[hp.1]at hf; cases hf
        · exact hf (by rw[List.eq_nil_of_length_eq_zero hp.2,List.eq_nil_of_length_eq_zero h.2])
    · rw[if_neg h]
      exact⟨hg,hc,.inr (by rw[lst_snoc]; exact h),Int.le_refl _,Int.le_refl _,rfl⟩
theorem can_of {xs:List OpA}(h:badE xs=0)(hB:sB xs≤L)(hR:sR xs≤L)(hc:Chain xs)(hl:xs.length=0∨¬plainR (lst xs)):Can xs:=by
  refine⟨?_,hc,hl⟩
  rw[lenP_ok h (by have:L=1099511627776:=rfl; omega)]
theorem can_ok {xs:List OpA}(h:badE xs=0)(hB:sB xs≤L)(hR:sR xs≤L):Can (can xs)∧badE (can xs)=0∧sR (can xs)-sB (can xs)=sR xs-sB xs:=by
  have hi:=run_ok xs h hB
  have hsb:=hi.sb
  have hsr:=hi.sr
  obtain⟨d1,d2,d3,d4⟩:=dels_ok hi.good hi.chain hi.last hi.g0 (by omega)
  obtain⟨f1,f2,f3,f4,f5,f6⟩:=fin_ok d1 d2
  exact⟨can_of f1 (by unfold can; omega) (by unfold can; omega) f2 f3,f1,by unfold can; omega⟩
theorem of_can {xs:List OpA}(h:Can xs):badE xs=0∧sB xs≤L∧sR xs≤L∧Chain xs∧(xs.length=0∨¬plainR (lst xs)):=by
  obtain⟨h1,h2,h3⟩:=h
  obtain⟨a,b,_⟩:=lenP_zero h1
  exact⟨a,by have:L=1099511627776:=rfl; omega,by have:L=1099511627776:=rfl; omega,h2,h3⟩

theorem run_fix :∀ (xs:List OpA),badE xs=0→Chain xs→run xs=(if xs.length≠0∧(lst xs).kind=4 then (xs.take (xs.length-1),(lst xs).count)else (xs,0)):=by
  refine snoc_ind ?_ ?_
  · intro _ _; rfl
  · intro xs o ih h hc
    obtain⟨h1,h2⟩:=bad_snoc.1 h
    obtain⟨c1,c2⟩:=chain_snoc.1 hc
    rw[run_snoc,ih h1 c1,lst_snoc,List.length_append,List.length_singleton,Nat.add_sub_cancel,List.take_left]
    by_cases hd:xs.length≠0∧(lst xs).kind=4
    · rw[if_pos hd]
      have hf:=c2 hd.1
      unfold fitsP at hf
      rw[if_pos hd.2,decide_eq_true_eq]at hf
      rw[if_neg (fun k=>by have:=k.2; omega)]
      unfold step
      rw[if_neg (by omega),if_pos hf]
      rcases snoc_cases xs with rfl|⟨ys,a,rfl⟩
      · exact absurd rfl hd.1
      · rw[lst_snoc]at hd ⊢
        obtain⟨_,ga⟩:=bad_snoc.1 h1
        have hcn:=count_of_ok ga (.inr hd.2)
        rw[List.length_append,List.length_singleton,Nat.add_sub_cancel,List.take_left]
        unfold dels
        rw[if_neg (by omega),←ok_del ga hd.2,push_snoc,if_neg (fun k=>by have:=k.1; omega)]
    · rw[if_neg hd]
      have hl:xs.length=0∨(lst xs).kind≠4:=by
        by_cases h0:xs.length=0
        · exact .inl h0
        · exact .inr fun e=>hd ⟨h0,e⟩
      have hp:push xs o=xs++[o]:=push_far (by
        by_cases h0:xs.length=0
        · exact .inl h0
        · exact .inr ((not_meets (hl.resolve_left h0)).2 (c2 h0)))
      unfold step
      by_cases k4:o.kind=4
      · rw[if_pos k4,if_pos ⟨by simp,k4⟩]
        show (xs,0+o.count)=_
        rw[Int.zero_add]
      · rw[if_neg k4,if_neg (c:=_∧o.kind=4) (fun k=>k4 k.2)]
        by_cases k3:o.kind=3
        · rw[if_pos k3]
          show (push (dels xs 0) o,(0:Int))=_
          rw[show dels xs 0=xs from if_pos rfl,hp]
        · rw[if_neg k3]
          show (push xs o,(0:Int))=_
          rw[hp]
end B
end Go.Proofs.YtlnnjfdonilgmaaGreatDoor
