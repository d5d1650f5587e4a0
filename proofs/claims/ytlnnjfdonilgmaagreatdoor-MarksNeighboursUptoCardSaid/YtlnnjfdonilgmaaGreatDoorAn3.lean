import Derived.Test.YtlnnjfdonilgmaaGreatDoorBld
import Derived.Test.YtlnnjfdonilgmaaGreatDoorAn2
/- Builders: lengths and sizes of what is gathered; the first operation that is refused. No condition. -/

set_option linter.unusedVariables false
set_option linter.unusedSimpArgs false
set_option maxRecDepth 100000
namespace Go.Proofs.YtlnnjfdonilgmaaGreatDoor
open Go Go.RowKit Go.Proofs.YtlnnjfdonilgmaaGreatDoorW.PrintWords RX
namespace B
theorem push_len (xs:List OpA)(o:OpA):(push xs o).length≤xs.length+1:=by unfold push; split<;>simp
theorem dels_len' (xs:List OpA)(g:Int):(dels xs g).length≤xs.length+1:=by unfold dels; split<;>simp
theorem run_len :∀ xs:List OpA,(run xs).1.length≤2*xs.length:=by
  refine snoc_ind (Nat.le_refl _) ?_
  intro xs a ih
  rw[run_snoc,List.length_append,List.length_singleton]
  unfold step
  split
  · show (run xs).1.length≤_; omega
  · split
    · have h1:=push_len (dels (run xs).1 (run xs).2) a
      have h2:=dels_len' (run xs).1 (run xs).2
      show (push _ a).length≤_; omega
    · have h1:=push_len (run xs).1 a
      show (push _ a).length≤_; omega
def fine (o:OpA):Prop:=o.vt.size≤50000000∧o.attrs.length≤1048576∧∀ i,i<o.attrs.length→(o.attrs.getD i at0).1.size≤100000000∧(o.attrs.getD i at0).2.2.2.size≤100000000
def txS :List OpA→Nat
  | []=>0
  | o::r=>o.text.size+txS r
theorem txS_append :∀ xs ys:List OpA,txS (xs++ys)=txS xs+txS ys
  | [],ys=>by simp[txS]
  | o::r,ys=>by simp only[List.cons_append,txS,txS_append r ys]; omega
theorem txS_snoc (xs:List OpA)(o:OpA):txS (xs++[o])=txS xs+o.text.size:=by rw[txS_append]; simp[txS]
theorem txS_mem :∀ {xs:List OpA} {o:OpA},o∈xs→o.text.size≤txS xs
  | a::r,o,h=>by
    rcases List.mem_cons.1 h with rfl|h
    · simp only[txS]; omega
    · have:=txS_mem h; simp only[txS]; omega
theorem txS_take (xs:List OpA)(n:Nat):txS (xs.take n)≤txS xs:=by
  have:=txS_append (xs.take n) (xs.drop n)
  rw[List.take_append_drop]at this
  omega
theorem fine_gone (n:Int):fine (gone n):=⟨Nat.zero_le _,Nat.zero_le _,fun i hi=>absurd hi (by simp[gone])⟩
theorem push_sz {xs:List OpA}{o:OpA}(h:∀ x∈xs,fine x)(ho:fine o):(∀ x∈push xs o,fine x)∧txS (push xs o)≤txS xs+o.text.size:=by
  rcases snoc_cases xs with rfl|⟨ys,a,rfl⟩
  · rw[push_nil]; exact⟨fun x hx=>by rw[List.mem_singleton.1 hx]; exact ho,by simp[txS]⟩
  · rw[push_snoc]
    by_cases hm:meets a o
    · rw[if_pos hm]
      refine⟨fun x hx=>?_,?_⟩
      · rcases List.mem_append.1 hx with hx|hx
        · exact h x (List.mem_append_left _ hx)
        · rw[List.mem_singleton.1 hx]; exact h a (by simp)
      · rw[txS_snoc,txS_snoc]
        show txS ys+(a.text++o.text).size≤_
        rw[size_app]; omega
    · rw[if_neg hm]
      refine⟨fun x hx=>?_,?_⟩
      · rcases List.mem_append.1 hx with hx|hx
        · exact h x hx
        · rw[List.mem_singleton.1 hx]; exact ho
      · rw[txS_snoc]; exact Nat.le_refl _
theorem dels_sz {xs:List OpA}{g:Int}(h:∀ x∈xs,fine x):(∀ x∈dels xs g,fine x)∧txS (dels xs g)=txS xs:=by
  unfold dels
  split
  · exact⟨h,rfl⟩
  · refine⟨fun x hx=>?_,by rw[txS_snoc]; rfl⟩
    rcases List.mem_append.1 hx with hx|hx
    · exact h x hx
    · rw[List.mem_singleton.1 hx]; exact fine_gone _
theorem run_sz :∀ xs:List OpA,(∀ o∈xs,fine o)→(∀ o∈(run xs).1,fine o)∧txS (run xs).1≤txS xs:=by
  refine snoc_ind ?_ ?_
  · intro _; exact⟨fun o ho=>(by cases ho),Nat.le_refl _⟩
  · intro xs a ih h
    obtain⟨h1,h2⟩:=ih fun o ho=>h o (List.mem_append_left _ ho)
    have ha:fine a:=h a (by simp)
    rw[run_snoc,txS_snoc]
    unfold step
    split
    · exact⟨h1,by show txS (run xs).1≤_; omega⟩
    · split
      · obtain⟨d1,d2⟩:=dels_sz (g:=(run xs).2) h1
        obtain⟨p1,p2⟩:=push_sz d1 ha
        exact⟨p1,by show txS (push _ a)≤_; omega⟩
      · obtain⟨p1,p2⟩:=push_sz h1 ha
        exact⟨p1,by show txS (push _ a)≤_; omega⟩
theorem fine_of {o:OpA}(h:opSz o):fine o:=⟨h.2.1,h.2.2.1,h.2.2.2⟩
theorem lst_mem {xs:List OpA}(h:xs.length≠0):lst xs∈xs:=getD_mem op0 (by omega)
theorem lst_txt {xs:List OpA}{K:Nat}(h:txS xs≤K):(lst xs).text.size≤K:=by
  by_cases h0:xs.length=0
  · rw[List.eq_nil_of_length_eq_zero h0]; exact Nat.zero_le _
  · have:=txS_mem (lst_mem h0); omega
def firstE (f:Nat→Nat):Nat→Nat×Nat
  | 0=>(0,0)
  | n+1=>if (firstE f n).2≠0 then firstE f n else if f n≠0 then (n,f n)else (0,0)
theorem first_none {f:Nat→Nat}:∀ {n:Nat},(∀ j,j<n→f j=0)→firstE f n=(0,0)
  | 0,_=>rfl
  | n+1,h=>by
    have h1:=first_none (n:=n) fun j hj=>h j (by omega)
    unfold firstE
    rw[h1,if_neg (by simp),if_neg (by rw[h n (by omega)]; simp)]
theorem first_at {f:Nat→Nat}{i:Nat}(h0:∀ j,j<i→f j=0)(hi:f i≠0):∀ {n:Nat},i<n→firstE f n=(i,f i)
  | n+1,h=>by
    unfold firstE
    by_cases hn:i<n
    · rw[first_at h0 hi hn,if_pos hi]
    · obtain rfl:i=n:=by omega
      rw[first_none h0,if_neg (by simp),if_pos hi]
theorem first_zero {f:Nat→Nat}:∀ {n:Nat},(firstE f n).2=0→∀ j,j<n→f j=0
  | n+1,h,j,hj=>by
    unfold firstE at h
    by_cases h1:(firstE f n).2≠0
    · rw[if_pos h1]at h; exact absurd h h1
    · rw[if_neg h1]at h
      by_cases h2:f n≠0
      · rw[if_pos h2]at h; exact absurd h h2
      · by_cases hn:j<n
        · exact first_zero (by omega) j hn
        · obtain rfl:j=n:=by omega
          omega
noncomputable def bE (xs:List OpA) (i:Nat):Nat:=if pErr (xs.getD i op0)≠0 then pErr (xs.getD i op0)else if L<sB (xs.take (i+1))∨L<sR (xs.take (i+1))then 11 else 0
noncomputable def bOf (xs:List OpA):Nat×Nat:=firstE (bE xs) xs.length
theorem bE_ok {xs:List OpA}{i:Nat}(h:bE xs i=0):pErr (xs.getD i op0)=0∧sB (xs.take (i+1))≤L∧sR (xs.take (i+1))≤L:=by
  unfold bE at h
  by_cases h1:pErr (xs.getD i op0)≠0
  · rw[if_pos h1]at h; exact absurd h h1
  · rw[if_neg h1]at h
    by_cases h2:L<sB (xs.take (i+1))∨L<sR (xs.take (i+1))
    · rw[if_pos h2]at h; cases h
    · omega
theorem bE_upto {xs:List OpA}:∀ {i:Nat},i≤xs.length→(∀ j,j<i→bE xs j=0)→badE (xs.take i)=0∧sB (xs.take i)≤L∧sR (xs.take i)≤L
  | 0,_,_=>⟨rfl,show (0:Int)≤L by decide,show (0:Int)≤L by decide⟩
  | i+1,hi,h=>by
    obtain⟨h1,h2,h3⟩:=bE_upto (i:=i) (by omega) fun j hj=>h j (by omega)
    obtain⟨k1,k2,k3⟩:=bE_ok (h i (by omega))
    exact⟨badE_succ (by omega) h1 k1,k2,k3⟩
theorem bOf_ok {xs:List OpA}(h:(bOf xs).2=0):badE xs=0∧sB xs≤L∧sR xs≤L:=by
  have:=bE_upto (xs:=xs) (Nat.le_refl _) (first_zero h)
  rwa [List.take_length]at this
theorem bOf_of {xs:List OpA}(h:badE xs=0)(hB:sB xs≤L)(hR:sR xs≤L):(bOf xs)=(0,0):=by
  refine first_none fun j hj=>?_
  have hs:=sum_take_le h (j+1)
  unfold bE
  rw[if_neg (by rw[badE_getD h hj]; simp),if_neg (by omega)]
theorem bOf_canOk {xs:List OpA}(h:(bOf xs).2=0):Can (can xs)∧badE (can xs)=0:=by
  obtain⟨h1,h2,h3⟩:=bOf_ok h
  obtain⟨c1,c2,_⟩:=can_ok h1 h2 h3
  exact⟨c1,c2⟩
theorem inv_at {xs:List OpA}{i:Nat}(hi:i≤xs.length)(h:∀ j,j<i→bE xs j=0):Inv (xs.take i) (run (xs.take i)):=by
  obtain⟨h1,h2,h3⟩:=bE_upto hi h
  exact run_ok _ h1 h2
theorem inv_gone {xs:List OpA}{s:St}(h:Inv xs s)(hL:sB xs≤L):s.2≤L:=by
  have h1:=sB_ok h.good
  have h2:=h.sb
  omega
theorem sB_take {xs:List OpA}{i:Nat}(hi:i<xs.length):sB (xs.take (i+1))=sB (xs.take i)+opB (xs.getD i op0):=sumI_take opB xs i hi
theorem sR_take {xs:List OpA}{i:Nat}(hi:i<xs.length):sR (xs.take (i+1))=sR (xs.take i)+opR (xs.getD i op0):=sumI_take opR xs i hi
theorem run_succ {xs:List OpA}{i:Nat}(hi:i<xs.length):run (xs.take (i+1))=step (run (xs.take i)) (xs.getD i op0):=by rw[take_snocD op0 xs i hi,run_snoc]
end B
end Go.Proofs.YtlnnjfdonilgmaaGreatDoor

set_option linter.unusedVariables false
set_option linter.unusedSimpArgs false
namespace Go.Proofs.YtlnnjfdonilgmaaGreatDoor.RX
open Go Go.RowKit Go.Proofs.YtlnnjfdonilgmaaGreatDoorW.PrintLast
section
variable {P : Program} {N : Nat} {ops : Array Oper} {wd w : World} {ds : List Nat} {qs : QS} {l : Slots}
end
theorem XB_gPure {P:Program}{N:Nat}{ops:Array Oper}{wd w0:World}{ds:List Nat}{qs:QS}{ov:List (Nat×Ov)}{fuel:Nat}(hq:Deaf qs):∀ (ids:List Nat) (listed:Array Bool) (l:Slots) (vs:List Value) (listed':Array Bool) (l':Slots) (cs:World→List Prop),
    (∀ w,gA P N ops ov ds true w ids listed l=some (vs,listed',l',List.replicate ids.length w,cs w))→(∀ w,allP (cs w))→XB P N ops wd ds fuel listed' qs l' w0→XB P N ops wd ds (ids.length+fuel) listed qs l w0:=by
  intro ids
  induction ids with
  | nil=>
    intro listed l vs listed' l' cs h _ hn
    have h:=h w0
    simp only[gA,Option.some.injEq,Prod.mk.injEq]at h
    obtain⟨_,rfl,rfl,_⟩:=h
    simpa using hn
  | cons i r ih=>
    intro listed l vs listed' l' cs h hc hn a ha
    have h0:=h w0
    simp only[gA]at h0
    split at h0
    · cases h0
    · rename_i o ho
      cases hb:(o.dst.isSome&&okD N o.dst&&Region.noSelect ops&&Region.free .any ops listed i&&(Region.ready .any ops listed).contains i&&Region.closedB .any ops listed&&(true||Region.lastB .any ops listed ds i))with
      | false=>rw[hb]at h0; cases h0
      | true=>
        rw[hb]at h0
        simp only[cond_true]at h0
        have hb':=hb
        simp only[Bool.and_eq_true]at hb'
        obtain⟨⟨⟨⟨⟨⟨hsome,hd⟩,hs⟩,hf⟩,hr⟩,hcl⟩,_⟩:=hb'
        rw[show (i::r).length+fuel=(r.length+fuel)+1 from by simp; omega]
        split at h0
        · rename_i hg
          split at h0
          · rename_i v w1 cs1 h1
            split at h0
            · rename_i vs2 ls l2 ws cs2 h2
              simp only[Option.some.injEq,Prod.mk.injEq,List.length_cons,List.replicate_succ,List.cons.injEq]at h0
              obtain⟨rfl,rfl,rfl,_,_⟩:=h0
              have hall:∀ w,∃ c1 c2,gx1 P l w o (ovOf ov o.dst)=some (v,w,c1)∧gA P N ops ov ds true w r (listed.setIfInBounds i true) (putS l o.dst v)=some (vs2,ls,l2,List.replicate r.length w,c2)∧cs w=c1++c2:=by
                intro w
                have hw:=h w
                simp only[gA,ho,hb,cond_true,hg]at hw
                split at hw
                · rename_i v' w' c1 e1
                  split at hw
                  · rename_i vs' ls' l2' ws' c2 e2
                    simp only[Option.some.injEq,Prod.mk.injEq,List.length_cons,List.replicate_succ,List.cons.injEq]at hw
                    obtain⟨⟨rfl,rfl⟩,rfl,rfl,⟨rfl,rfl⟩,hcw⟩:=hw
                    exact⟨c1,c2,e1,e2,hcw.symm⟩
                  · cases hw
                · cases hw
              refine wpAnyLast_any (v:=v) ho (Region.noSelect_spec hs) (deaf_lift hq _ _) _ _ _ _ (Region.free_spec ho hf) (by simpa using hr) (.inl ⟨gd_ok ha hg,fun w=>?_⟩) ?_
              · obtain⟨c1,c2,e1,_,ec⟩:=hall w
                have hcw:=hc w
                rw[ec]at hcw
                rcases gx1_ok e1 (allP_append hcw).1 ha with hrun|⟨_,_,hn⟩
                · exact hrun
                · rw[hn]at hsome; cases hsome
              · exact ih _ _ _ _ _ (fun w=>((gA P N ops ov ds true w r (listed.setIfInBounds i true) (putS l o.dst v)).map (·.2.2.2.2)).getD []) (fun w=>by
                  obtain⟨c1,c2,_,e2,_⟩:=hall w
                  rw[e2]; rfl) (fun w=>by
                  obtain⟨c1,c2,_,e2,ec⟩:=hall w
                  rw[e2]
                  have hcw:=hc w
                  rw[ec]at hcw
                  exact(allP_append hcw).2) hn _ (ha.putS hd v)
            · cases h0
          · cases h0
        · rename_i hg
          split at h0
          · rename_i vs2 ls l2 ws cs2 h2
            simp only[Option.some.injEq,Prod.mk.injEq,List.length_cons,List.replicate_succ,List.cons.injEq]at h0
            obtain⟨rfl,rfl,rfl,_,_⟩:=h0
            have hall:∀ w,gA P N ops ov ds true w r (listed.setIfInBounds i true) (putS l o.dst undef)=some (vs2,ls,l2,List.replicate r.length w,cs w):=by
              intro w
              have hw:=h w
              simp only[gA,ho,hb,cond_true,hg]at hw
              split at hw
              · rename_i vs' ls' l2' ws' c2 e2
                simp only[Option.some.injEq,Prod.mk.injEq,List.length_cons,List.replicate_succ,List.cons.injEq]at hw
                obtain⟨⟨_,rfl⟩,rfl,rfl,⟨_,rfl⟩,rfl⟩:=hw
                exact e2
              · cases hw
            exact wpAnyLast_any (v:=undef) ho (Region.noSelect_spec hs) (deaf_lift hq _ _) _ _ _ _ (Region.free_spec ho hf) (by simpa using hr) (.inr ⟨gd_ok ha hg,rfl⟩) (ih _ _ _ _ _ cs hall hc hn _ (ha.putS hd undef))
          · cases h0
        · cases h0

section
variable {P : Program} {N : Nat} {ops : Array Oper} {wd w : World} {ds : List Nat} {qs : QS} {l : Slots}
theorem XB_pure {fuel fuel':Nat}{listed:Array Bool}(ids:List Nat)(ov:List (Nat×Ov))(vs:List Value)(listed':Array Bool)(l':Slots)(cs:World→List Prop)(hq:Deaf qs)
    (h:∀ w,(gA P N ops ov ds true w ids listed l).map (fun r=>(r.1,r.2.1,keep r.2.2.1 (l'.map (·.1)),r.2.2.2))=some (vs,listed',l',List.replicate ids.length w,cs w)) (hf:fuel=ids.length+fuel') (hc:∀ w,allP (cs w)) (hn:XB P N ops wd ds fuel' listed' qs l' w):XB P N ops wd ds fuel listed qs l w:=by
  subst hf
  have h2:∀ w,gA P N ops ov ds true w ids listed l=some (vs,listed',putIds ops ids vs l,List.replicate ids.length w,cs w)∧keep (putIds ops ids vs l) (l'.map (·.1))=l':=by
    intro w
    obtain⟨r,hr,he⟩:=Option.map_eq_some_iff.1 (h w)
    obtain⟨vs1,ls1,l1,ws1,cs1⟩:=r
    simp only[Prod.mk.injEq]at he
    obtain⟨rfl,rfl,he,rfl,rfl⟩:=he
    have:=gA_slots _ _ _ _ _ _ _ _ hr
    subst this
    exact⟨hr,he⟩
  refine XB_gPure hq ids listed l _ _ _ _ (fun w=>(h2 w).1) hc ?_
  intro a ha
  exact hn a (by rw[←(h2 w).2]; exact ha.keep _)
end
end Go.Proofs.YtlnnjfdonilgmaaGreatDoor.RX
