import Derived.Test.YtgphmfnkeolbcaaGreatDoorBld
import Derived.Test.YtgphmfnkeolbcaaGreatDoorAn2
import Derived.Test.YtgphmfnkeolbcaaGreatDoorT4
/- Builders: lengths and sizes of what is gathered; the first operation that is refused. No condition. -/

set_option linter.unusedVariables false
set_option linter.unusedSimpArgs false
set_option maxRecDepth 100000
namespace Go.Proofs.YtgphmfnkeolbcaaGreatDoor
open Go Go.RowKit Go.Proofs.YtgphmfnkeolbcaaGreatDoorW.PrintWords RX
namespace B
theorem push_len (xs:List OpA)(o:OpA):(push xs o).length≤xs.length+1:=by unfold push; split<;>simp
theorem dels_len' (xs:List OpA)(g:Int):(dels xs g).length≤xs.length+1:=by unfold dels; split<;>simp
theorem run_len :∀ xs:List OpA,(run xs).1.length≤2*xs.length:=by
  refine snoc_ind (Nat.le_refl _) ?_
  intro xs a ih
  rw[run_snoc,List.length_append,List.length_singleton]
  unfold step
  split
  · show (run xs).1.length≤_; omega
  · split
    · have h1:=push_len (dels (run xs).1 (run xs).2) a
      have h2:=dels_len' (run xs).1 (run xs).2
      show (push _ a).length≤_; omega
    · have h1:=push_len (run xs).1 a
      show (push _ a).length≤_; omega
def fine (o:OpA):Prop:=o.vt.size≤50000000∧o.attrs.length≤1048576∧∀ i,i<o.attrs.length→(o.attrs.getD i at0).1.size≤100000000∧(o.attrs.getD i at0).2.2.2.size≤100000000
def txS :List OpA→Nat
  | []=>0
  | o::r=>o.text.size+txS r
theorem txS_append :∀ xs ys:List OpA,txS (xs++ys)=txS xs+txS ys
  | [],ys=>by simp[txS]
  | o::r,ys=>by simp only[List.cons_append,txS,txS_append r ys]; omega
theorem txS_snoc (xs:List OpA)(o:OpA):txS (xs++[o])=txS xs+o.text.size:=by rw[txS_append]; simp[txS]
theorem txS_mem :∀ {xs:List OpA} {o:OpA},o∈xs→o.text.size≤txS xs
  | a::r,o,h=>by
    rcases List.mem_cons.1 h with rfl|h
    · simp only[txS]; omega
    · have:=txS_mem h; simp only[txS]; omega
theorem txS_take (xs:List OpA)(n:Nat):txS (xs.take n)≤txS xs:=by
  have:=txS_append (xs.take n) (xs.drop n)
  rw[List.take_append_drop]at this
  omega
theorem fine_gone (n:Int):fine (gone n):=⟨Nat.zero_le _,Nat.zero_le _,fun i hi=>absurd hi (by simp[gone])⟩
theorem push_sz {xs:List OpA}{o:OpA}(h:∀ x∈xs,fine x)(ho:fine o):(∀ x∈push xs o,fine x)∧txS (push xs o)≤txS xs+o.text.size:=by
  rcases snoc_cases xs with rfl|⟨ys,a,rfl⟩
  · rw[push_nil]; exact⟨fun x hx=>by rw[List.mem_singleton.1 hx]; exact ho,by simp[txS]⟩
  · rw[push_snoc]
    by_cases hm:meets a o
    · rw[if_pos hm]
      refine⟨fun x hx=>?_,?_⟩
      · rcases List.mem_append.1 hx with hx|hx
        · exact h x (List.mem_append_left _ hx)
        · rw[List.mem_singleton.1 hx]; exact h a (by simp)
      · rw[txS_snoc,txS_snoc]
        show txS ys+(a.text++o.text).size≤_
        rw[size_app]; omega
    · rw[if_neg hm]
      refine⟨fun x hx=>?_,?_⟩
      · rcases List.mem_append.1 hx with hx|hx
        · exact h x hx
        · rw[List.mem_singleton.1 hx]; exact ho
      · rw[txS_snoc]; exact Nat.le_refl _
theorem dels_sz {xs:List OpA}{g:Int}(h:∀ x∈xs,fine x):(∀ x∈dels xs g,fine x)∧txS (dels xs g)=txS xs:=by
  unfold dels
  split
  · exact⟨h,rfl⟩
  · refine⟨fun x hx=>?_,by rw[txS_snoc]; rfl⟩
    rcases List.mem_append.1 hx with hx|hx
    · exact h x hx
    · rw[List.mem_singleton.1 hx]; exact fine_gone _
theorem run_sz :∀ xs:List OpA,(∀ o∈xs,fine o)→(∀ o∈(run xs).1,fine o)∧txS (run xs).1≤txS xs:=by
  refine snoc_ind ?_ ?_
  · intro _; exact⟨fun o ho=>(by cases ho),Nat.le_refl _⟩
  · intro xs a ih h
    obtain⟨h1,h2⟩:=ih fun o ho=>h o (List.mem_append_left _ ho)
    have ha:fine a:=h a (by simp)
    rw[run_snoc,txS_snoc]
    unfold step
    split
    · exact⟨h1,by show txS (run xs).1≤_; omega⟩
    · split
      · obtain⟨d1,d2⟩:=dels_sz (g:=(run xs).2) h1
        obtain⟨p1,p2⟩:=push_sz d1 ha
        exact⟨p1,by show txS (push _ a)≤_; omega⟩
      · obtain⟨p1,p2⟩:=push_sz h1 ha
        exact⟨p1,by show txS (push _ a)≤_; omega⟩
theorem fin_sub (xs:List OpA):∀ x∈fin xs,x∈xs:=by
  unfold fin
  split
  · exact fun x hx=>List.mem_of_mem_take hx
  · exact fun x hx=>hx
theorem fine_of {o:OpA}(h:opSz o):fine o:=⟨h.2.1,h.2.2.1,h.2.2.2⟩
theorem sz_of {o:OpA}(h:fine o)(ht:o.text.size≤50000000):opSz o:=⟨ht,h.1,h.2.1,h.2.2⟩
theorem can_sz {xs:List OpA}(h:∀ o∈xs,fine o)(ht:txS xs≤50000000):∀ o∈can xs,opSz o:=by
  intro o ho
  obtain⟨h1,h2⟩:=run_sz xs h
  obtain⟨d1,d2⟩:=dels_sz (g:=(run xs).2) h1
  have hm:=fin_sub _ o ho
  have:=txS_mem hm
  exact sz_of (d1 o hm) (by omega)
theorem lst_mem {xs:List OpA}(h:xs.length≠0):lst xs∈xs:=getD_mem op0 (by omega)
theorem lst_txt {xs:List OpA}{K:Nat}(h:txS xs≤K):(lst xs).text.size≤K:=by
  by_cases h0:xs.length=0
  · rw[List.eq_nil_of_length_eq_zero h0]; exact Nat.zero_le _
  · have:=txS_mem (lst_mem h0); omega
theorem can_len (xs:List OpA):(can xs).length≤2*xs.length+1:=by
  have h1:=run_len xs
  have h2:=dels_len' (run xs).1 (run xs).2
  unfold can fin
  split
  · rw[List.length_take]; omega
  · omega

def firstE (f:Nat→Nat):Nat→Nat×Nat
  | 0=>(0,0)
  | n+1=>if (firstE f n).2≠0 then firstE f n else if f n≠0 then (n,f n)else (0,0)
theorem first_none {f:Nat→Nat}:∀ {n:Nat},(∀ j,j<n→f j=0)→firstE f n=(0,0)
  | 0,_=>rfl
  | n+1,h=>by
    have h1:=first_none (n:=n) fun j hj=>h j (by omega)
    unfold firstE
    rw[h1,if_neg (by simp),if_neg (by rw[h n (by omega)]; simp)]
theorem first_at {f:Nat→Nat}{i:Nat}(h0:∀ j,j<i→f j=0)(hi:f i≠0):∀ {n:Nat},i<n→firstE f n=(i,f i)
  | n+1,h=>by
    unfold firstE
    by_cases hn:i<n
    · rw[first_at h0 hi hn,if_pos hi]
    · obtain rfl:i=n:=by omega
      rw[first_none h0,if_neg (by simp),if_pos hi]
theorem first_zero {f:Nat→Nat}:∀ {n:Nat},(firstE f n).2=0→∀ j,j<n→f j=0
  | n+1,h,j,hj=>by
    unfold firstE at h
    by_cases h1:(firstE f n).2≠0
    · rw[if_pos h1]at h; exact absurd h h1
    · rw[if_neg h1]at h
      by_cases h2:f n≠0
      · rw[if_pos h2]at h; exact absurd h h2
      · by_cases hn:j<n
        · exact first_zero (by omega) j hn
        · obtain rfl:j=n:=by omega
          omega
noncomputable def bE (xs:List OpA) (i:Nat):Nat:=if pErr (xs.getD i op0)≠0 then pErr (xs.getD i op0)else if L<sB (xs.take (i+1))∨L<sR (xs.take (i+1))then 11 else 0
noncomputable def bOf (xs:List OpA):Nat×Nat:=firstE (bE xs) xs.length
theorem bE_ok {xs:List OpA}{i:Nat}(h:bE xs i=0):pErr (xs.getD i op0)=0∧sB (xs.take (i+1))≤L∧sR (xs.take (i+1))≤L:=by
  unfold bE at h
  by_cases h1:pErr (xs.getD i op0)≠0
  · rw[if_pos h1]at h; exact absurd h h1
  · rw[if_neg h1]at h
    by_cases h2:L<sB (xs.take (i+1))∨L<sR (xs.take (i+1))
    · rw[if_pos h2]at h; cases h
    · omega
theorem bE_upto {xs:List OpA}:∀ {i:Nat},i≤xs.length→(∀ j,j<i→bE xs j=0)→badE (xs.take i)=0∧sB (xs.take i)≤L∧sR (xs.take i)≤L
  | 0,_,_=>⟨rfl,show (0:Int)≤L by decide,show (0:Int)≤L by decide⟩
  | i+1,hi,h=>by
    obtain⟨h1,h2,h3⟩:=bE_upto (i:=i) (by omega) fun j hj=>h j (by omega)
    obtain⟨k1,k2,k3⟩:=bE_ok (h i (by omega))
    exact⟨badE_succ (by omega) h1 k1,k2,k3⟩
theorem bOf_ok {xs:List OpA}(h:(bOf xs).2=0):badE xs=0∧sB xs≤L∧sR xs≤L:=by
  have:=bE_upto (xs:=xs) (Nat.le_refl _) (first_zero h)
  rwa [List.take_length]at this
theorem bOf_of {xs:List OpA}(h:badE xs=0)(hB:sB xs≤L)(hR:sR xs≤L):(bOf xs)=(0,0):=by
  refine first_none fun j hj=>?_
  have hs:=sum_take_le h (j+1)
  unfold bE
  rw[if_neg (by rw[badE_getD h hj]; simp),if_neg (by omega)]
theorem bOf_canOk {xs:List OpA}(h:(bOf xs).2=0):Can (can xs)∧badE (can xs)=0:=by
  obtain⟨h1,h2,h3⟩:=bOf_ok h
  obtain⟨c1,c2,_⟩:=can_ok h1 h2 h3
  exact⟨c1,c2⟩
theorem inv_at {xs:List OpA}{i:Nat}(hi:i≤xs.length)(h:∀ j,j<i→bE xs j=0):Inv (xs.take i) (run (xs.take i)):=by
  obtain⟨h1,h2,h3⟩:=bE_upto hi h
  exact run_ok _ h1 h2
theorem inv_gone {xs:List OpA}{s:St}(h:Inv xs s)(hL:sB xs≤L):s.2≤L:=by
  have h1:=sB_ok h.good
  have h2:=h.sb
  omega
theorem sB_take {xs:List OpA}{i:Nat}(hi:i<xs.length):sB (xs.take (i+1))=sB (xs.take i)+opB (xs.getD i op0):=sumI_take opB xs i hi
theorem sR_take {xs:List OpA}{i:Nat}(hi:i<xs.length):sR (xs.take (i+1))=sR (xs.take i)+opR (xs.getD i op0):=sumI_take opR xs i hi
theorem run_succ {xs:List OpA}{i:Nat}(hi:i<xs.length):run (xs.take (i+1))=step (run (xs.take i)) (xs.getD i op0):=by rw[take_snocD op0 xs i hi,run_snoc]
end B
end Go.Proofs.YtgphmfnkeolbcaaGreatDoor

set_option linter.unusedVariables false
set_option linter.unusedSimpArgs false
namespace Go.Proofs.YtgphmfnkeolbcaaGreatDoor.RX
open Go Go.RowKit Go.Proofs.YtgphmfnkeolbcaaGreatDoorW.PrintLast
section
variable {P : Program} {N : Nat} {ops : Array Oper} {wd w : World} {ds : List Nat} {qs : QS} {l : Slots}
theorem XB_step {fuel':Nat}{listed:Array Bool}(i:Nat)(o:Oper)(h0:ops[i]?=some o)
    (h:XL P N ops [o] (thenS (fun l' w'=>Below wd.heap.size wd w'∧XB P N ops wd ds fuel' (listed.setIfInBounds i true) qs l' w') qs) l w) (a:Act) (ha:Fr N l a):
    wpOp P ops (lift N qs) i (fun a' w'=>(i∉ds→Below wd.heap.size wd w→Below wd.heap.size wd w')∧wpAnyLast P .any ops (lift N qs) (fun w'=>Below wd.heap.size wd w') ds fuel' (listed.setIfInBounds i true) a' w') a w:=by
  have h1:=h a ha
  unfold wpOp
  simp only[h0]
  have hm:∀ a' w',lift N (thenS (fun l' w'=>Below wd.heap.size wd w'∧XB P N ops wd ds fuel' (listed.setIfInBounds i true) qs l' w') qs) .normal a' w'→
      (i∉ds→Below wd.heap.size wd w→Below wd.heap.size wd w')∧wpAnyLast P .any ops (lift N qs) (fun w'=>Below wd.heap.size wd w') ds fuel' (listed.setIfInBounds i true) a' w':=by
    rintro a' w' ⟨l',hl',hb,hx⟩
    exact⟨fun _ _=>hb,hx a' hl'⟩
  unfold wpList at h1
  split at h1
  · rename_i hw
    rw[if_pos hw]
    refine h1.imp (fun h1=>upon_Q (Q:=lift N (thenS (fun l' w'=>Below wd.heap.size wd w'∧XB P N ops wd ds fuel' (listed.setIfInBounds i true) qs l' w') qs)) (fun _ _ _ hx=>hx) (fun hx=>hx) (Oper.wp_mono (fun a' w' hx=>hm a' w' hx) h1)) (fun h=>h)
  · rename_i hw
    rw[if_neg hw]
    exact hm _ _ h1
theorem XB_two {fuel fuel':Nat}{listed:Array Bool}(i j:Nat)(li lj:Array Bool)(o o':Oper)(h0:ops[i]?=some o)(h0':ops[j]?=some o')(hr:Region.ready .any ops listed=[i,j])(hl:listed.setIfInBounds i true=li)(hl':listed.setIfInBounds j true=lj)(hf:fuel=fuel'+1)
    (h:XL P N ops [o] (thenS (fun l' w'=>Below wd.heap.size wd w'∧XB P N ops wd ds fuel' li qs l' w') qs) l w)
    (h':XL P N ops [o'] (thenS (fun l' w'=>Below wd.heap.size wd w'∧XB P N ops wd ds fuel' lj qs l' w') qs) l w):XB P N ops wd ds fuel listed qs l w:=by
  subst hf
  subst hl
  subst hl'
  intro a ha
  refine wpAnyLast_all hr (by simp) fun k hk=>?_
  have hk2:k=i∨k=j:=by simpa using hk
  rcases hk2 with rfl|rfl
  · exact XB_step k o h0 h a ha
  · exact XB_step k o' h0' h' a ha
end
theorem XB_gPure {P:Program}{N:Nat}{ops:Array Oper}{wd w0:World}{ds:List Nat}{qs:QS}{ov:List (Nat×Ov)}{fuel:Nat}(hq:Deaf qs):∀ (ids:List Nat) (listed:Array Bool) (l:Slots) (vs:List Value) (listed':Array Bool) (l':Slots) (cs:World→List Prop),
    (∀ w,gA P N ops ov ds true w ids listed l=some (vs,listed',l',List.replicate ids.length w,cs w))→(∀ w,allP (cs w))→XB P N ops wd ds fuel listed' qs l' w0→XB P N ops wd ds (ids.length+fuel) listed qs l w0:=by
  intro ids
  induction ids with
  | nil=>
    intro listed l vs listed' l' cs h _ hn
    have h:=h w0
    simp only[gA,Option.some.injEq,Prod.mk.injEq]at h
    obtain⟨_,rfl,rfl,_⟩:=h
    simpa using hn
  | cons i r ih=>
    intro listed l vs listed' l' cs h hc hn a ha
    have h0:=h w0
    simp only[gA]at h0
    split at h0
    · cases h0
    · rename_i o ho
      cases hb:(o.dst.isSome&&okD N o.dst&&Region.noSelect ops&&Region.free .any ops listed i&&(Region.ready .any ops listed).contains i&&Region.closedB .any ops listed&&(true||Region.lastB .any ops listed ds i))with
      | false=>rw[hb]at h0; cases h0
      | true=>
        rw[hb]at h0
        simp only[cond_true]at h0
        have hb':=hb
        simp only[Bool.and_eq_true]at hb'
        obtain⟨⟨⟨⟨⟨⟨hsome,hd⟩,hs⟩,hf⟩,hr⟩,hcl⟩,_⟩:=hb'
        rw[show (i::r).length+fuel=(r.length+fuel)+1 from by simp; omega]
        split at h0
        · rename_i hg
          split at h0
          · rename_i v w1 cs1 h1
            split at h0
            · rename_i vs2 ls l2 ws cs2 h2
              simp only[Option.some.injEq,Prod.mk.injEq,List.length_cons,List.replicate_succ,List.cons.injEq]at h0
              obtain⟨rfl,rfl,rfl,_,_⟩:=h0
              have hall:∀ w,∃ c1 c2,gx1 P l w o (ovOf ov o.dst)=some (v,w,c1)∧gA P N ops ov ds true w r (listed.setIfInBounds i true) (putS l o.dst v)=some (vs2,ls,l2,List.replicate r.length w,c2)∧cs w=c1++c2:=by
                intro w
                have hw:=h w
                simp only[gA,ho,hb,cond_true,hg]at hw
                split at hw
                · rename_i v' w' c1 e1
                  split at hw
                  · rename_i vs' ls' l2' ws' c2 e2
                    simp only[Option.some.injEq,Prod.mk.injEq,List.length_cons,List.replicate_succ,List.cons.injEq]at hw
                    obtain⟨⟨rfl,rfl⟩,rfl,rfl,⟨rfl,rfl⟩,hcw⟩:=hw
                    exact⟨c1,c2,e1,e2,hcw.symm⟩
                  · cases hw
                · cases hw
              refine wpAnyLast_any (v:=v) ho (Region.noSelect_spec hs) (deaf_lift hq _ _) _ _ _ _ (Region.free_spec ho hf) (by simpa using hr) (.inl ⟨gd_ok ha hg,fun w=>?_⟩) ?_
              · obtain⟨c1,c2,e1,_,ec⟩:=hall w
                have hcw:=hc w
                rw[ec]at hcw
                rcases gx1_ok e1 (allP_append hcw).1 ha with hrun|⟨_,_,hn⟩
                · exact hrun
                · rw[hn]at hsome; cases hsome
              · exact ih _ _ _ _ _ (fun w=>((gA P N ops ov ds true w r (listed.setIfInBounds i true) (putS l o.dst v)).map (·.2.2.2.2)).getD []) (fun w=>by
                  obtain⟨c1,c2,_,e2,_⟩:=hall w
                  rw[e2]; rfl) (fun w=>by
                  obtain⟨c1,c2,_,e2,ec⟩:=hall w
                  rw[e2]
                  have hcw:=hc w
                  rw[ec]at hcw
                  exact(allP_append hcw).2) hn _ (ha.putS hd v)
            · cases h0
          · cases h0
        · rename_i hg
          split at h0
          · rename_i vs2 ls l2 ws cs2 h2
            simp only[Option.some.injEq,Prod.mk.injEq,List.length_cons,List.replicate_succ,List.cons.injEq]at h0
            obtain⟨rfl,rfl,rfl,_,_⟩:=h0
            have hall:∀ w,gA P N ops ov ds true w r (listed.setIfInBounds i true) (putS l o.dst undef)=some (vs2,ls,l2,List.replicate r.length w,cs w):=by
              intro w
              have hw:=h w
              simp only[gA,ho,hb,cond_true,hg]at hw
              split at hw
              · rename_i vs' ls' l2' ws' c2 e2
                simp only[Option.some.injEq,Prod.mk.injEq,List.length_cons,List.replicate_succ,List.cons.injEq]at hw
                obtain⟨⟨_,rfl⟩,rfl,rfl,⟨_,rfl⟩,rfl⟩:=hw
                exact e2
              · cases hw
            exact wpAnyLast_any (v:=undef) ho (Region.noSelect_spec hs) (deaf_lift hq _ _) _ _ _ _ (Region.free_spec ho hf) (by simpa using hr) (.inr ⟨gd_ok ha hg,rfl⟩) (ih _ _ _ _ _ cs hall hc hn _ (ha.putS hd undef))
          · cases h0
        · cases h0

section
variable {P : Program} {N : Nat} {ops : Array Oper} {wd w : World} {ds : List Nat} {qs : QS} {l : Slots}
theorem XB_pure {fuel fuel':Nat}{listed:Array Bool}(ids:List Nat)(ov:List (Nat×Ov))(vs:List Value)(listed':Array Bool)(l':Slots)(cs:World→List Prop)(hq:Deaf qs)
    (h:∀ w,(gA P N ops ov ds true w ids listed l).map (fun r=>(r.1,r.2.1,keep r.2.2.1 (l'.map (·.1)),r.2.2.2))=some (vs,listed',l',List.replicate ids.length w,cs w)) (hf:fuel=ids.length+fuel') (hc:∀ w,allP (cs w)) (hn:XB P N ops wd ds fuel' listed' qs l' w):XB P N ops wd ds fuel listed qs l w:=by
  subst hf
  have h2:∀ w,gA P N ops ov ds true w ids listed l=some (vs,listed',putIds ops ids vs l,List.replicate ids.length w,cs w)∧keep (putIds ops ids vs l) (l'.map (·.1))=l':=by
    intro w
    obtain⟨r,hr,he⟩:=Option.map_eq_some_iff.1 (h w)
    obtain⟨vs1,ls1,l1,ws1,cs1⟩:=r
    simp only[Prod.mk.injEq]at he
    obtain⟨rfl,rfl,he,rfl,rfl⟩:=he
    have:=gA_slots _ _ _ _ _ _ _ _ hr
    subst this
    exact⟨hr,he⟩
  refine XB_gPure hq ids listed l _ _ _ _ (fun w=>(h2 w).1) hc ?_
  intro a ha
  exact hn a (by rw[←(h2 w).2]; exact ha.keep _)
end
end Go.Proofs.YtgphmfnkeolbcaaGreatDoor.RX
set_option linter.unusedVariables false
set_option linter.unusedSimpArgs false
set_option maxRecDepth 100000
namespace Go.Proofs.YtgphmfnkeolbcaaGreatDoor
open Go Go.RowKit Go.Proofs.YtgphmfnkeolbcaaGreatDoorW.PrintWords RX
theorem ent91 :Ent Tryz.prog 91:=ent_of Tryz.func91 (by kernel_rfl) rfl
theorem ent65 :Ent Tryz.prog 65:=ent_of Tryz.func65 (by kernel_rfl) rfl
theorem ent56 :Ent Tryz.prog 56:=ent_of Tryz.func56 (by kernel_rfl) rfl
theorem ent133 :Ent Tryz.prog 133:=ent_of Tryz.func133 (by kernel_rfl) rfl
theorem fin_plain {ps:List OpA}(h:ps.length≠0)(hp:plainR (B.lst ps)):(List.map pOf ps).take ((List.map pOf ps).length-1)=List.map pOf (B.fin ps)∧(List.map pOf ps).length-1=(List.map pOf (B.fin ps)).length:=by
 unfold B.fin
 rw[if_pos ⟨h,hp⟩,List.length_map,List.map_take]
 exact⟨rfl,by rw[List.length_take,List.length_map]; omega⟩
theorem fin_not {ps:List OpA}(hp:ps.length=0∨¬plainR (B.lst ps)):B.fin ps=ps:=if_neg fun h=>hp.elim h.1 fun h2=>h2 h.2
set_option maxHeartbeats 2000000 in
theorem bdelta_any (wB:World)(g:Nat)(b r:Int)(s:B.St)(A:Option Addr)(c:Nat)(w:World)(hB:wB.heap.size≤w.heap.size)(hk:RX.Blk w g 194 #[i6 b,i6 r,.slice A (List.map pOf s.1).length c,i6 s.2])(hR:kPiece.R 124 w wB.heap.size (OkFrom wB.heap.size) (.slice A (List.map pOf s.1).length c) (List.map pOf s.1))(hs2:0≤s.2∧s.2≤1099511627776)(hbd:badE s.1=0)(hl:s.1.length≤100000000):
  Calls Tryz.prog 91 #[pw g 0] w fun e w'=>∃ d A' c',e=.returned (pw d 0)∧w.heap.size≤d∧RX.Blk w' d 162 #[aL A' (List.map pOf (B.fin (B.dels s.1 s.2))) c']∧kPiece.R 124 w' wB.heap.size (OkFrom wB.heap.size) (aL A' (List.map pOf (B.fin (B.dels s.1 s.2))) c') (List.map pOf (B.fin (B.dels s.1 s.2)))∧(∀ k,A'.map (·.block)=some k→w.heap.size≤k)∧Below w.heap.size w w':=by
 have hls:=dels_len s.1 s.2
 have hlm:(List.map pOf s.1).length=s.1.length:=List.length_map ..
 have hb':=dels_ok2 hbd hs2.1 hs2.2
 refine en Tryz.func91 rfl 45 [(0,pw g 0)] (fun R_ hR_=>?_)
 refine sg (xe0 1 [(0,pw g 0)] ?_)
 refine nl (sq (X_grow [9] 11 (tf 0 11) (by kernel_rfl) (by kernel_rfl) (by kernel_rfl) (fun wd1 b2 hh3=>?_)))
 refine XB_run (fuel':=3) (Below.refl _ _) [0,1,2,3,5,6,7,8] [(10,.load (aL A (List.map pOf s.1) c)),(15,.load (i6 s.2))] [pw g 0,pw g 0,pw g 2,.slice A ((List.map pOf s.1).length) c,pw g 0,pw g 0,pw g 3,i6 s.2] #[true,true,true,true,false,true,true,true,true,false,false] [(10,aL A (List.map pOf s.1) c),(15,i6 s.2)] (fun w_=>[la 160 (⟨g,2,none⟩) (aL A (List.map pOf s.1) c) w_,la 3 (⟨g,3,none⟩) (i6 s.2) w_]) (fun w_ hC_=>⟨loads1 rfl (Blk.cell (Blk.below hk (bt b2 hC_)) 2 _ rfl),loads1 rfl (Blk.cell (Blk.below hk (bt b2 hC_)) 3 _ rfl),trivial⟩) ?_
 refine XB_mid (fuel':=2) 4 (tf 9 2) _ rfl (by kernel_rfl) (by kernel_rfl) rfl ?_
 refine xc 143 ent143 [aL A (List.map pOf s.1) c] (pclone_any _ _ s.1 wB _ (Nat.le_trans hB b2.size) (Kd.R_below hR b2) (by omega)) ?_
 rintro e w_6 ⟨A4,c_5,rfl,r7,hsp8,b9⟩; refine⟨_,rfl,?_⟩
 refine nl ?_
 refine⟨b9,?_⟩
 refine XB_act (fuel':=1) 9 (tf 10 1) _ rfl (by kernel_rfl) rfl (by kernel_rfl) rfl ?_
 refine xc 137 ent137 [.slice A4 ((List.map pOf s.1).length) c_5,i6 s.2] (bdeleted_any _ _ s.1 _ wB _ (Nat.le_trans hB (Nat.le_trans b2.size b9.size)) r7 (by omega)) ?_
 rintro e w12 ⟨A10,c11,rfl,r13,g14,hat15⟩; refine⟨_,rfl,?_⟩
 have hsp16:∀ k_,A10.map (·.block)=some k_→wd1.heap.size≤k_:=fun k_ hk_=>by rcases hat15 with h_|⟨b_,h_,h2_⟩; (· exact hsp8 k_ (by rw[←h_]; exact hk_)); (· rw[h_]at hk_; injection hk_ with hk_; subst hk_; exact Nat.le_trans b9.size h2_)
 obtain⟨ps,hps⟩:∃ ps,B.dels s.1 s.2=ps:=⟨_,rfl⟩
 rw[hps]at hls hb' r13 ⊢
 have hlm2:(List.map pOf ps).length=ps.length:=List.length_map ..
 refine nl (XB_pure (fuel':=0) [10] [] [aL A10 (List.map pOf ps) c11] (tf 11 0) [(3,aL A10 (List.map pOf ps) c11)] (fun w_=>[]) (fun _ _ _ _ h=>h) (fun w_=>by kernel_rfl) rfl (fun w_=>trivial) ?_)
 refine XB_done (by kernel_rfl) ?_
 refine sg (xr1 4 [(19,.eq (i6 (((List.map pOf ps).length:Int)-1)))] [(4,i6 (((List.map pOf ps).length:Int)-1))] [] (w6 (((List.map pOf ps).length:Int)-1)) ?_)
 refine nl (sq (sg (xr0 1 [(20,i6 (((List.map pOf ps).length:Int)-1))] [] ?_)))
 by_cases c17:((List.map pOf ps).length:Int)-1<0
 ·refine xr1 1 [(21,.eq bT)] [(21,bT)] [20] (dT c17) ?_
  refine nl (ct (sg (xc 144 ent144 [] (bempty_any _) ?_)))
  rintro e w19 ⟨g18,rfl,g20,k21,b22⟩; refine⟨_,rfl,?_⟩
  refine xe0 1 [(2,pw g18 0)] ?_
  refine nl (X_ret (rj [pw g18 0] hR_ ?_))
  have B23:Below w.heap.size w w19:=(bt (bgo (bt b2 b9) g14 hsp8 (b2).size) b22)
  rw[hps]
  obtain rfl:ps=[]:=List.eq_nil_of_length_eq_zero (by omega)
  exact⟨_,none,0,rfl,Nat.le_trans (Nat.le_trans (Nat.le_trans b2.size b9.size) g14.size) g20,k21,Kd.R_nil _ _ _ _ _,fun _ h_=>(by cases h_),B23⟩
 have hne:ps.length≠0:=by omega
 refine xr1 1 [(21,.eq bF)] [(21,bF)] [20] (dF c17) ?_
 refine nl (cf (sk (sq (sg (xr0 2 [(24,aL A10 (List.map pOf ps) c11),(25,i6 (((List.map pOf ps).length:Int)-1))] [21] ?_)))))
 obtain⟨ad24,cs27,a25,M28,hc26⟩:=Kd.R_at piece0 r13 (i:=((List.map pOf ps).length:Int)-1) (by omega) (by omega)
 obtain⟨v29,rfl⟩:=kPiece_one M28
 replace hc26:CellsAt w12 (ad24.add ((((List.map pOf ps).length:Int)-1).toNat*1)) [v29]:=hc26
 refine xr 1 [(26,.idx ad24)] [(26,.pointer (some (ad24.add ((((List.map pOf ps).length:Int)-1).toNat*1))))] [24,25] [A10=some ad24,(0:Int)≤((List.map pOf ps).length:Int)-1,((List.map pOf ps).length:Int)-1<((List.map pOf ps).length:Int)] ⟨a25,(by omega),(by omega),trivial⟩ ?_
 rw[last_get hne]at M28
 have hla:=lst_ok hb' hne
 rcases kind_of_ok hla with hlk|hlk|hlk|hlk
 ·rw[pOf_ins hlk]at M28
  obtain⟨A31,c32,e33,l34,R35⟩:=kPiece_insM M28
  obtain rfl:=(List.cons.inj e33).1
  refine xwe 6 [(27,.load (.iface 249 (.agg #[.slice A31 ((B.lst ps).attrs.length) c32,sT ((B.lst ps).text),i6 ((U.sc (B.lst ps).text).length:Int)])))] [(3,aL A10 (List.map pOf ps) c11),(4,i6 (((List.map pOf ps).length:Int)-1)),(5,pw w12.heap.size 0),(29,.agg #[.slice none 0 0,i6 0]),(30,bF)] (w12.alloc (.cells #[.slice none 0 0,i6 0] 128)) [la 124 (ad24.add ((((List.map pOf ps).length:Int)-1).toNat*1)) (.iface 249 (.agg #[.slice A31 ((B.lst ps).attrs.length) c32,sT ((B.lst ps).text),i6 ((U.sc (B.lst ps).text).length:Int)])) w12] ⟨loads1 rfl (elem_cell hc26 0 _ rfl),trivial⟩ ?_
  obtain⟨w36,w40,b37,k38,z39⟩:=new_world w12 #[.slice none 0 0,i6 0] 128
  rw[w40]
  refine xst (.agg #[.slice none 0 0,i6 0]) k38 0 #[.slice none 0 0,i6 0] (fun w41 g42 k43 z44=>?_)
  have r45:=Kd.R_off (Kd.R_below r13 b37) k38 (by decide) g42
  refine xr0 1 [(6,bF)] [29,30] ?_
  refine nl (sg (xr0 8 [(38,bF)] [5,6] ?_))
  refine nl (cf (sk (sg (xwe 3 [] [(44,pw w41.heap.size 0)] (w41.alloc (.cells #[aL A10 (List.map pOf ps) c11] 162)) [] trivial ?_))))
  obtain⟨w46,w50,b47,k48,z49⟩:=new_world w41 #[aL A10 (List.map pOf ps) c11] 162
  rw[w50]
  refine xe0 1 [(2,pw w41.heap.size 0)] ?_
  refine nl (X_ret (rj [pw w41.heap.size 0] hR_ ?_))
  have B51:Below w.heap.size w w12:=(bgo (bt b2 b9) g14 hsp8 (b2).size)
  have B52:Below w.heap.size w w41:=(bg (bt (bgo (bt b2 b9) g14 hsp8 (b2).size) b37) g42 (B51).size)
  rw[hps,fin_not (.inr fun h_=>by have h1_:=h_.1; have h2_:=h_.2; omega)]
  exact⟨_,_,_,rfl,(B52).size,k48,(Kd.R_below r45 b47),(fun k_ hk_=>Nat.le_trans b2.size (hsp16 k_ hk_)),(bt B52 b47)⟩
 ·rw[pOf_emb hlk]at M28
  obtain⟨A53,c54,e55,l56,R57⟩:=kPiece_embM M28
  obtain rfl:=(List.cons.inj e55).1
  have hval:(B.lst ps).val=((B.lst ps).vk,(B.lst ps).vn,(B.lst ps).vt):=rfl
  rw[hval]at hc26
  refine xwe 6 [(27,.load (.iface 253 (.agg #[.slice A53 ((B.lst ps).attrs.length) c54,sT ((B.lst ps).text),valV ((B.lst ps).vk,(B.lst ps).vn,(B.lst ps).vt)])))] [(3,aL A10 (List.map pOf ps) c11),(4,i6 (((List.map pOf ps).length:Int)-1)),(5,pw w12.heap.size 0),(29,.agg #[.slice none 0 0,i6 0]),(30,bF)] (w12.alloc (.cells #[.slice none 0 0,i6 0] 128)) [la 124 (ad24.add ((((List.map pOf ps).length:Int)-1).toNat*1)) (.iface 253 (.agg #[.slice A53 ((B.lst ps).attrs.length) c54,sT ((B.lst ps).text),valV ((B.lst ps).vk,(B.lst ps).vn,(B.lst ps).vt)])) w12] ⟨loads1 rfl (elem_cell hc26 0 _ rfl),trivial⟩ ?_
  obtain⟨w58,w62,b59,k60,z61⟩:=new_world w12 #[.slice none 0 0,i6 0] 128
  rw[w62]
  refine xst (.agg #[.slice none 0 0,i6 0]) k60 0 #[.slice none 0 0,i6 0] (fun w63 g64 k65 z66=>?_)
  have r67:=Kd.R_off (Kd.R_below r13 b59) k60 (by decide) g64
  refine xr0 1 [(6,bF)] [29,30] ?_
  refine nl (sg (xr0 8 [(38,bF)] [5,6] ?_))
  refine nl (cf (sk (sg (xwe 3 [] [(44,pw w63.heap.size 0)] (w63.alloc (.cells #[aL A10 (List.map pOf ps) c11] 162)) [] trivial ?_))))
  obtain⟨w68,w72,b69,k70,z71⟩:=new_world w63 #[aL A10 (List.map pOf ps) c11] 162
  rw[w72]
  refine xe0 1 [(2,pw w63.heap.size 0)] ?_
  refine nl (X_ret (rj [pw w63.heap.size 0] hR_ ?_))
  have B73:Below w.heap.size w w12:=(bgo (bt b2 b9) g14 hsp8 (b2).size)
  have B74:Below w.heap.size w w63:=(bg (bt (bgo (bt b2 b9) g14 hsp8 (b2).size) b59) g64 (B73).size)
  rw[hps,fin_not (.inr fun h_=>by have h1_:=h_.1; have h2_:=h_.2; omega)]
  exact⟨_,_,_,rfl,(B74).size,k70,(Kd.R_below r67 b69),(fun k_ hk_=>Nat.le_trans b2.size (hsp16 k_ hk_)),(bt B74 b69)⟩
 ·rw[pOf_ret hlk]at M28
  obtain⟨A75,c76,e77,l78,R79⟩:=kPiece_retM M28
  obtain rfl:=(List.cons.inj e77).1
  refine xwe 6 [(27,.load (.iface 128 (.agg #[.slice A75 ((B.lst ps).attrs.length) c76,i6 ((B.lst ps).count)])))] [(3,aL A10 (List.map pOf ps) c11),(4,i6 (((List.map pOf ps).length:Int)-1)),(5,pw w12.heap.size 0),(29,.agg #[.slice A75 ((B.lst ps).attrs.length) c76,i6 ((B.lst ps).count)]),(30,bT)] (w12.alloc (.cells #[.slice none 0 0,i6 0] 128)) [la 124 (ad24.add ((((List.map pOf ps).length:Int)-1).toNat*1)) (.iface 128 (.agg #[.slice A75 ((B.lst ps).attrs.length) c76,i6 ((B.lst ps).count)])) w12] ⟨loads1 rfl (elem_cell hc26 0 _ rfl),trivial⟩ ?_
  obtain⟨w80,w84,b81,k82,z83⟩:=new_world w12 #[.slice none 0 0,i6 0] 128
  rw[w84]
  refine xst (.agg #[.slice A75 ((B.lst ps).attrs.length) c76,i6 ((B.lst ps).count)]) k82 0 #[.slice A75 ((B.lst ps).attrs.length) c76,i6 ((B.lst ps).count)] (fun w85 g86 k87 z88=>?_)
  have r89:=Kd.R_off (Kd.R_below r13 b81) k82 (by decide) g86
  refine xr0 1 [(6,bT)] [29,30] ?_
  refine nl (sg (xr1 6 [(35,.load (aL A75 (B.lst ps).attrs c76))] [(32,bT),(36,i6 ((B.lst ps).attrs.length:Int))] [5,6] (lc 49 k87 0) ?_))
  by_cases c90:((B.lst ps).attrs.length:Int)=0
  ·refine xr1 2 [(37,.eq bT)] [(38,bT)] [32,36] (bE c90) ?_
   refine nl (ct (X_region ?_))
   refine xe 4 [(41,.as (.slice A10 ((((List.map pOf ps).length:Int)-1).toNat) c11))] [(3,.slice A10 ((((List.map pOf ps).length:Int)-1).toNat) c11)] [RunsAs Tryz.prog [(39,aL A10 (List.map pOf ps) c11),(40,i6 (((List.map pOf ps).length:Int)-1))] (Go.Op.slice 160 (Go.Operand.tmp 39) none (some (Go.Operand.tmp 40)) none) 160 (.slice A10 ((((List.map pOf ps).length:Int)-1).toNat) c11) w85] ⟨runs_slice_h (h:=((List.map pOf ps).length:Int)-1) rfl rfl rfl rfl (by omega) (by have h:=(RX.Kd.R_len r13).2; (try simp only[List.length_append,List.length_cons,List.length_nil]at h); omega),trivial⟩ ?_
   refine nl (sg (xwe 3 [] [(44,pw w85.heap.size 0)] (w85.alloc (.cells #[.slice A10 ((((List.map pOf ps).length:Int)-1).toNat) c11] 162)) [] trivial ?_))
   obtain⟨w92,w96,b93,k94,z95⟩:=new_world w85 #[.slice A10 ((((List.map pOf ps).length:Int)-1).toNat) c11] 162
   rw[w96]
   refine xe0 1 [(2,pw w85.heap.size 0)] ?_
   refine nl (X_ret (rj [pw w85.heap.size 0] hR_ ?_))
   have B97:Below w.heap.size w w12:=(bgo (bt b2 b9) g14 hsp8 (b2).size)
   have B98:Below w.heap.size w w85:=(bg (bt (bgo (bt b2 b9) g14 hsp8 (b2).size) b81) g86 (B97).size)
   rw[hps]
   obtain⟨ht1,ht2⟩:=fin_plain hne ⟨hlk,by omega⟩
   have hR2:=RX.Kd.R_take (Kd.R_below r89 b93) (m:=(List.map pOf ps).length-1) (by omega)
   have hk2:=k94
   have hn2:(((List.map pOf ps).length:Int)-1).toNat=(List.map pOf ps).length-1:=by omega
   rw[hn2,ht2]at hk2
   rw[ht1,ht2]at hR2
   exact⟨_,_,_,rfl,(B98).size,hk2,hR2,(fun k_ hk_=>Nat.le_trans b2.size (hsp16 k_ hk_)),(bt B98 b93)⟩
  refine xr1 2 [(37,.eq bF)] [(38,bF)] [32,36] (bN c90) ?_
  refine nl (cf (sk (sg (xwe 3 [] [(44,pw w85.heap.size 0)] (w85.alloc (.cells #[aL A10 (List.map pOf ps) c11] 162)) [] trivial ?_))))
  obtain⟨w99,w103,b100,k101,z102⟩:=new_world w85 #[aL A10 (List.map pOf ps) c11] 162
  rw[w103]
  refine xe0 1 [(2,pw w85.heap.size 0)] ?_
  refine nl (X_ret (rj [pw w85.heap.size 0] hR_ ?_))
  have B104:Below w.heap.size w w12:=(bgo (bt b2 b9) g14 hsp8 (b2).size)
  have B105:Below w.heap.size w w85:=(bg (bt (bgo (bt b2 b9) g14 hsp8 (b2).size) b81) g86 (B104).size)
  rw[hps,fin_not (.inr fun h_=>by have h1_:=h_.1; have h2_:=h_.2; omega)]
  exact⟨_,_,_,rfl,(B105).size,k101,(Kd.R_below r89 b100),(fun k_ hk_=>Nat.le_trans b2.size (hsp16 k_ hk_)),(bt B105 b100)⟩
 rw[pOf_del hlk]at M28
 have e108:=kPiece_del (kPiece.K_of_M M28)
 obtain rfl:=(List.cons.inj e108).1
 refine xwe 6 [(27,.load (.iface 133 (.agg #[i6 ((B.lst ps).count)])))] [(3,aL A10 (List.map pOf ps) c11),(4,i6 (((List.map pOf ps).length:Int)-1)),(5,pw w12.heap.size 0),(29,.agg #[.slice none 0 0,i6 0]),(30,bF)] (w12.alloc (.cells #[.slice none 0 0,i6 0] 128)) [la 124 (ad24.add ((((List.map pOf ps).length:Int)-1).toNat*1)) (.iface 133 (.agg #[i6 ((B.lst ps).count)])) w12] ⟨loads1 rfl (elem_cell hc26 0 _ rfl),trivial⟩ ?_
 obtain⟨w111,w115,b112,k113,z114⟩:=new_world w12 #[.slice none 0 0,i6 0] 128
 rw[w115]
 refine xst (.agg #[.slice none 0 0,i6 0]) k113 0 #[.slice none 0 0,i6 0] (fun w116 g117 k118 z119=>?_)
 have r120:=Kd.R_off (Kd.R_below r13 b112) k113 (by decide) g117
 refine xr0 1 [(6,bF)] [29,30] ?_
 refine nl (sg (xr0 8 [(38,bF)] [5,6] ?_))
 refine nl (cf (sk (sg (xwe 3 [] [(44,pw w116.heap.size 0)] (w116.alloc (.cells #[aL A10 (List.map pOf ps) c11] 162)) [] trivial ?_))))
 obtain⟨w121,w125,b122,k123,z124⟩:=new_world w116 #[aL A10 (List.map pOf ps) c11] 162
 rw[w125]
 refine xe0 1 [(2,pw w116.heap.size 0)] ?_
 refine nl (X_ret (rj [pw w116.heap.size 0] hR_ ?_))
 have B126:Below w.heap.size w w12:=(bgo (bt b2 b9) g14 hsp8 (b2).size)
 have B127:Below w.heap.size w w116:=(bg (bt (bgo (bt b2 b9) g14 hsp8 (b2).size) b112) g117 (B126).size)
 rw[hps,fin_not (.inr fun h_=>by have h1_:=h_.1; have h2_:=h_.2; omega)]
 exact⟨_,_,_,rfl,(B127).size,k123,(Kd.R_below r120 b122),(fun k_ hk_=>Nat.le_trans b2.size (hsp16 k_ hk_)),(bt B127 b122)⟩
def DeltaR (w:World)(Bs d:Nat)(A:Option Addr)(c:Nat)(xs:List OpA):Prop:=Bs≤d∧RX.Blk w d 162 #[aL A (List.map pOf xs) c]∧kPiece.R 124 w Bs (OkFrom Bs) (aL A (List.map pOf xs) c) (List.map pOf xs)
def DeltaC (w:World)(d:Nat)(xs:List OpA):Prop:=∃ A c,RX.Blk w d 162 #[aL A (List.map pOf xs) c]∧(List.map pOf xs).length≤c∧kPiece.C w A (List.map pOf xs).length (List.map pOf xs)
theorem DeltaR.c {w:World}{Bs d:Nat}{A:Option Addr}{c:Nat}{xs:List OpA}(h:DeltaR w Bs d A c xs):DeltaC w d xs:=⟨A,c,h.2.1,(RX.Kd.R_len h.2.2).2,Kd.R_C h.2.2⟩
theorem DeltaC.below {w w1:World}{d:Nat}{xs:List OpA}(h:DeltaC w d xs)(hb:Below w.heap.size w w1):DeltaC w1 d xs:=by
 obtain⟨A,c,h1,h2,h3⟩:=h
 exact⟨A,c,Blk.below h1 hb,h2,Kd.C_below h3 hb⟩
theorem dops_any (d:Nat)(xs:List OpA)(w:World)(hd:DeltaC w d xs)(hb:badE xs=0)(hn:xs.length≤1100000)(hz:∀ i,i<xs.length→opSz (xs.getD i op0)):Calls Tryz.prog 56 #[pw d 0] w fun e w'=>∃ A' c',e=.returned (.slice A' xs.length c')∧xs.length≤c'∧kOp.R 102 w' w.heap.size (OkFrom w.heap.size) (.slice A' xs.length c') xs∧Below w.heap.size w w':=by
 refine en Tryz.func56 rfl 8 [(0,pw d 0)] (fun R_ hR_=>?_)
 obtain⟨A0,c0,hk0,hc0,hC0⟩:=hd
 refine sg (xe0 1 [(0,pw d 0)] ?_)
 refine nl (sg (xe1 4 [(6,.load (aL A0 (List.map pOf xs) c0))] [(6,aL A0 (List.map pOf xs) c0)] (lc 160 hk0 0) ?_))
 refine xc 116 ent116 [aL A0 (List.map pOf xs) c0] (bplain_any _ _ xs _ hb hC0 hn hz) ?_
 rintro e w3 ⟨A1,c2,rfl,l4,r5,b6⟩; refine⟨_,rfl,?_⟩
 refine xe0 1 [(2,aL A1 xs c2)] ?_
 refine nl (X_ret (rj [aL A1 xs c2] hR_ ?_))
 exact⟨_,_,rfl,(RX.Kd.R_len r5).2,Kd.R_low r5 (Nat.le_refl _),b6⟩
theorem dpieces_any (d:Nat)(xs:List OpA)(w:World)(hd:DeltaC w d xs)(hb:badE xs=0)(hn:xs.length≤1100000)(hz:∀ i,i<xs.length→opSz (xs.getD i op0))(hT:Tabs w)(es:List Addr)(hE:ErrsO w es):Calls Tryz.prog 133 #[pw d 0] w fun e w'=>∃ A' c',e=.returned (.slice A' (List.map pOf xs).length c')∧kPiece.R 124 w' w.heap.size (OkFrom w.heap.size) (.slice A' (List.map pOf xs).length c') (List.map pOf xs)∧Below w.heap.size w w':=by
 refine en Tryz.func133 rfl 16 [(0,pw d 0)] (fun R_ hR_=>?_)
 refine sg (xe0 1 [(0,pw d 0)] ?_)
 refine nl (sg (xe0 1 [(7,pw d 0)] ?_))
 refine xc 56 ent56 [pw d 0] (dops_any _ xs _ hd hb hn hz) ?_
 rintro e w3 ⟨A1,c2,rfl,l4,r5,b6⟩; refine⟨_,rfl,?_⟩
 refine xc 135 ent135 [aL A1 xs c2] (of_any _ _ xs _ (Kd.R_C r5) (by omega) hz (hT.below b6) es (hE.below b6)) ?_
 rintro e w9 ⟨A7,c8,rfl,r10,b11⟩; refine⟨_,rfl,?_⟩
 rw[ofP_ok hb]at r10 ⊢; rw[badI_none hb,hb,errV_zero]
 refine xe0 7 [(3,aL A7 (List.map pOf xs) c8),(5,.nilIface)] ?_
 refine nl (sq (sg (xr0 2 [(14,bF)] [5] ?_)))
 refine nl (cf (sk (sg (xe0 2 [(2,aL A7 (List.map pOf xs) c8)] ?_))))
 refine nl (X_ret (rj [aL A7 (List.map pOf xs) c8] hR_ ?_))
 exact⟨_,_,rfl,Kd.R_low r10 (b6).size,(bt b6 b11)⟩
theorem bE_pushE {xs:List OpA}{i:Nat}(hi:i<xs.length):B.bE xs i=pushE (sB (xs.take i)) (sR (xs.take i)) (xs.getD i op0):=by
 unfold B.bE pushE
 rw[B.sB_take hi,B.sR_take hi]
theorem pushE_bE {xs:List OpA}{i:Nat}(hi:i<xs.length)(h:pushE (sB (xs.take i)) (sR (xs.take i)) (xs.getD i op0)=0):B.bE xs i=0:=by rw[bE_pushE hi]; exact h
set_option maxHeartbeats 4000000 in
theorem bof_any (A:Option Addr)(c:Nat)(xs:List OpA)(w:World)(hx:kOp.C w A xs.length xs)(hxc:xs.length≤c)(hn:xs.length≤1100000)(hz:∀ i,i<xs.length→opSz (xs.getD i op0))(ht:B.txS xs≤50000000)(hT:Tabs w)(es:List Addr)(hE:ErrsO w es):
  Calls Tryz.prog 65 #[aL A xs c] w fun e w'=>Below w.heap.size w w'∧(((B.bOf xs).2=0∧∃ d A' c',e=.returned (.tuple #[pw d 0,i6 0,.nilIface])∧DeltaR w' w.heap.size d A' c' (B.can xs))∨((B.bOf xs).2≠0∧e=.returned (.tuple #[.pointer none,i6 ((B.bOf xs).1:Int),errV es (B.bOf xs).2]))):=by
 have hpl:xs.length≤9223372036854775807:=hx.2.1
 have hfi:∀ o∈xs,B.fine o:=fun o ho=>by
  obtain⟨i,hi,rfl⟩:=List.getElem_of_mem ho
  have:=hz i hi
  rw[List.getD_eq_getElem?_getD,List.getElem?_eq_getElem hi]at this
  exact B.fine_of this
 refine en Tryz.func65 rfl 27 [(0,aL A xs c)] (fun R_ hR_=>?_)
 refine sg (xe0 3 [(0,aL A xs c)] ?_)
 refine nl (sg (xc 80 ent80 [] (bnew_any _) ?_))
 rintro e w_1 ⟨g,rfl,g2,k3,b4⟩; refine⟨_,rfl,?_⟩
 refine xr0 1 [(5,pw g 0)] [9] ?_
 refine nl (sq (sg (xr0 3 [(10,aL A xs c),(11,i6 (xs.length:Int)),(12,i6 0)] [0] ?_)))
 refine nl (X_block ?_)
 have hgw:=(Nat.le_trans (Nat.le_refl _) g2)
 refine X_loop (ι:=Nat×Option Addr×Nat) (fun⟨i,A5,c5⟩=>[(5,pw g 0),(10,aL A xs c),(11,i6 (xs.length:Int)),(12,i6 (i:Int))]) (fun⟨i,A5,c5⟩ wl=>i≤xs.length∧(∀ j,j<i→B.bE xs j=0)∧RX.Blk wl g 194 #[i6 (sB (xs.take i)),i6 (sR (xs.take i)),.slice A5 (List.map pOf ((B.run (xs.take i)).1)).length c5,i6 ((B.run (xs.take i)).2)]∧kPiece.R 124 wl w.heap.size (OkFrom w.heap.size) (aL A5 (List.map pOf ((B.run (xs.take i)).1)) c5) (List.map pOf ((B.run (xs.take i)).1))∧Below w.heap.size w wl) (fun⟨i,A5,c5⟩=>xs.length-i) (0,none,0) ⟨Nat.zero_le _,fun _ h_=>absurd h_ (Nat.not_lt_zero _),k3,Kd.R_nil _ _ _ _ _,b4⟩ (by kernel_rfl) ?_
 rintro⟨i,A5,c5⟩ wl ⟨hi,hb0,hkl,hrl,HB⟩
 have hiv:=B.inv_at hi hb0
 have hup:=B.bE_upto hi hb0
 have hgn:=B.inv_gone hiv hup.2.1
 have hln:=B.run_len (xs.take i)
 rw[List.length_take]at hln
 have hszr:=B.run_sz (xs.take i) (fun o_ ho_=>hfi o_ (List.mem_of_mem_take ho_))
 have htk:=B.txS_take xs i
 have hsB0:=sB_ok hup.1
 have hsR0:=sR_ok hup.1
 have hL_:B.L=1099511627776:=rfl
 refine sq (X_region ?_)
 by_cases c_5:(i:Int)<(xs.length:Int)
 ·refine xr1 1 [(13,.eq bT)] [(13,bT)] [] (dT c_5) ?_
  refine nl (sq (ct (sk (sq (bk (sg (xr0 1 [(14,nv i)] [13] ?_)))))))
  obtain⟨ad6,B9,c10,a7,hc8,l11,C12⟩:=Kd.atOp (Kd.C_below hx HB) (i:=(i:Int)) (by omega) (by omega)
  replace hc8:CellsAt wl (ad6.add ((i:Int).toNat*7)) (o7L (xs.getD i op0) (aL B9 (xs.getD i op0).attrs c10)):=hc8
  replace l11:(xs.getD i op0).attrs.length≤c10:=l11
  replace C12:kAttr.C wl B9 ((xs.getD i op0).attrs.length) (xs.getD i op0).attrs:=C12
  refine xw 3 [(15,.idx ad6),(16,.load (.agg (o7A (xs.getD i op0) (aL B9 (xs.getD i op0).attrs c10))))] [(7,pw wl.heap.size 0),(16,.agg (o7A (xs.getD i op0) (aL B9 (xs.getD i op0).attrs c10)))] [] (wl.alloc (.cells #[i6 0,s0,i6 0,i6 0,s0,i6 0,.slice none 0 0] 102)) [A=some ad6,(0:Int)≤(i:Int),(i:Int)<(xs.length:Int),la 102 (ad6.add ((i:Int).toNat*7)) (.agg (o7A (xs.getD i op0) (aL B9 (xs.getD i op0).attrs c10))) wl] ⟨a7,(by omega),(by omega),loadsE rfl rfl hc8 0 ⟨by kernel_rfl,by kernel_rfl⟩,trivial⟩ ?_
  obtain⟨w13,w17,b14,k15,z16⟩:=new_world wl #[i6 0,s0,i6 0,i6 0,s0,i6 0,.slice none 0 0] 102
  rw[w17]
  refine xr0 1 [(6,nv i)] [14] ?_
  refine xst (.agg (o7A (xs.getD i op0) (aL B9 (xs.getD i op0).attrs c10))) k15 0 (o7A (xs.getD i op0) (aL B9 (xs.getD i op0).attrs c10)) (fun w18 g19 k20 z21=>?_)
  refine nl (sg (xr 2 [(18,.load (.agg (o7A (xs.getD i op0) (aL B9 (xs.getD i op0).attrs c10))))] [(17,pw g 0),(18,.agg (o7A (xs.getD i op0) (aL B9 (xs.getD i op0).attrs c10)))] [7,16] [la 102 (⟨wl.heap.size,0,none⟩) (.agg (o7A (xs.getD i op0) (aL B9 (xs.getD i op0).attrs c10))) w18] ⟨loadsB rfl rfl k20 0 ⟨by kernel_rfl,by kernel_rfl⟩,trivial⟩ ?_))
  refine xc 83 ent83 [pw g 0,.agg (o7A (xs.getD i op0) (aL B9 (xs.getD i op0).attrs c10))] (push_any (xs.getD i op0) _ _ w g _ _ (B.run (xs.take i)) _ _ _ (bg (bt HB b14) g19 (HB).size) hgw (Blk.below hkl (bg b14 g19 (Nat.le_refl _))) (Kd.R_below hrl (bg b14 g19 (Nat.le_refl _))) ⟨hsB0,hup.2.1⟩ ⟨hsR0,hup.2.2⟩ ⟨hiv.g0,hgn⟩ hiv.good (by omega) (B.lst_txt (by omega)) (Kd.C_below C12 (bg b14 g19 (Nat.le_refl _))) l11 (hz i (by omega)) hT es hE) ?_
  rintro e w22 ⟨t23,⟨h1_24,rfl,A25,c26,k27,r28,hat29⟩|⟨h1_24,rfl,k27,r28⟩⟩
  ·refine⟨_,rfl,?_⟩
   have B30:Below w.heap.size w w22:=(bg (bt HB b14) g19 (HB).size).trans (Two.belowB t23 hgw (Kd.R_ge (Kd.R_below hrl (bg b14 g19 (Nat.le_refl _)))) ((bg (bt HB b14) g19 (HB).size)).size)
   have hbi:B.bE xs i=0:=pushE_bE (by omega) h1_24
   have hb1:∀ j,j<i+1→B.bE xs j=0:=fun j_ hj_=>by by_cases h_:j_<i; (· exact hb0 j_ h_); (· obtain rfl:j_=i:=(by omega); exact hbi)
   refine xe0 1 [(5,pw g 0),(6,nv i),(8,.nilIface),(10,aL A xs c),(11,i6 (xs.length:Int)),(12,nv i)] ?_
   refine nl (sg (xr0 2 [(21,bF)] [] ?_))
   refine nl (cf (sk (rg (xr1 2 [(24,.eq (i6 ((i:Int)+1)))] [(12,i6 ((i:Int)+1))] [6,8,21] (w6 ((i:Int)+1)) ?_))))
   refine nl ?_
   refine⟨(i+1,A25,c26),by kernel_rfl,?_,?_⟩
   ·exact⟨by omega,hb1,by rw[B.run_succ (by omega),B.sB_take (by omega),B.sR_take (by omega)]; exact k27,by rw[B.run_succ (by omega)]; exact r28,B30⟩
   (try dsimp only); omega
  refine⟨_,rfl,?_⟩
  have B31:Below w.heap.size w w22:=(bg (bt HB b14) g19 (HB).size).trans (Two.belowB t23 hgw (Kd.R_ge (Kd.R_below hrl (bg b14 g19 (Nat.le_refl _)))) ((bg (bt HB b14) g19 (HB).size)).size)
  have hbi:B.bE xs i=pushE (sB (xs.take i)) (sR (xs.take i)) (xs.getD i op0):=bE_pushE (by omega)
  have hne_:=h1_24; rw[←hbi]at hne_ ⊢
  have hfo:=B.first_at hb0 hne_ (show i<xs.length by omega)
  rw[errV_pos es _ (Nat.pos_of_ne_zero hne_)]
  refine xe0 1 [(5,pw g 0),(6,nv i),(8,.iface 301 (.pointer (some (errAt es (B.bE xs i))))),(10,aL A xs c),(11,i6 (xs.length:Int)),(12,nv i)] ?_
  refine nl (sg (xr0 2 [(21,bT)] [] ?_))
  refine nl (ct (sg (xe0 5 [(2,.pointer none),(3,nv i),(4,.iface 301 (.pointer (some (errAt es (B.bE xs i)))))] ?_)))
  refine nl (X_ret (rj [.pointer none,i6 (i:Int),.iface 301 (.pointer (some (errAt es (B.bE xs i))))] hR_ ?_))
  have hfo2:B.bOf xs=(i,B.bE xs i):=hfo
  rw[hfo2]
  refine⟨B31,.inr ⟨hne_,?_⟩⟩
  rw[errV_pos es _ (Nat.pos_of_ne_zero hne_)]; rfl
 refine xr1 1 [(13,.eq bF)] [(13,bF)] [] (dF c_5) ?_
 refine nl (sq (cf (X_exit (sg (xe0 1 [(25,pw g 0)] ?_)))))
 refine xc 91 ent91 [pw g 0] (bdelta_any w g _ _ (B.run (xs.take i)) _ _ _ (HB).size hkl hrl ⟨hiv.g0,hgn⟩ hiv.good (by omega)) ?_
 rintro e w34 ⟨d,A32,c33,rfl,d35,k36,r37,hsp38,b39⟩; refine⟨_,rfl,?_⟩
 refine xe0 3 [(2,pw d 0),(3,i6 0),(4,.nilIface)] ?_
 refine nl (X_ret (rj [pw d 0,i6 0,.nilIface] hR_ ?_))
 have hxi:xs.take i=xs:=List.take_of_length_le (by omega)
 have hfo2:B.bOf xs=(0,0):=B.first_none fun j_ hj_=>hb0 j_ (by omega)
 rw[hxi]at k36 r37
 rw[hfo2]
 exact⟨(bt HB b39),.inl ⟨rfl,d,A32,c33,rfl,(Nat.le_trans (HB).size d35),k36,r37⟩⟩
end Go.Proofs.YtgphmfnkeolbcaaGreatDoor
