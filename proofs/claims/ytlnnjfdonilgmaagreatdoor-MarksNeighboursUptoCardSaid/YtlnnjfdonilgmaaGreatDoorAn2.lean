import Derived.Test.YtlnnjfdonilgmaaGreatDoorAn
/- Regions that draw their order, look and act: what looks sees only what every world of a class has. No condition. -/

set_option linter.unusedVariables false
set_option linter.unusedSimpArgs false
namespace Go.Proofs.YtlnnjfdonilgmaaGreatDoor.RX
open Go Go.RowKit Go.Proofs.YtlnnjfdonilgmaaGreatDoorW.PrintLast

def XG (P:Program)(N:Nat)(ops:Array Oper)(S:World→Prop)(ds:List Nat)(fuel:Nat)(listed:Array Bool)(qs:QS)(l:Slots)(w:World):Prop:=
  ∀ a,Fr N l a→wpAnyLast P .any ops (lift N qs) S ds fuel listed a w

theorem XG_gP {P:Program}{N:Nat}{ops:Array Oper}{S:World→Prop}{w0:World}{ds:List Nat}{qs:QS}{ov:List (Nat×Ov)}{fuel:Nat}(hq:Deaf qs)(hS:S w0):∀ (ids:List Nat) (listed:Array Bool) (l:Slots) (vs:List Value) (listed':Array Bool) (l':Slots) (cs:World→List Prop),
    (∀ w,gA P N ops ov ds false w ids listed l=some (vs,listed',l',List.replicate ids.length w,cs w))→(∀ w,S w→allP (cs w))→XG P N ops S ds fuel listed' qs l' w0→XG P N ops S ds (ids.length+fuel) listed qs l w0:=by
  intro ids
  induction ids with
  | nil=>
    intro listed l vs listed' l' cs h _ hn
    have h:=h w0
    simp only[gA,Option.some.injEq,Prod.mk.injEq]at h
    obtain⟨_,rfl,rfl,_⟩:=h
    simpa using hn
  | cons i r ih=>
    intro listed l vs listed' l' cs h hc hn a ha
    have h0:=h w0
    simp only[gA]at h0
    split at h0
    · cases h0
    · rename_i o ho
      cases hb:(o.dst.isSome&&okD N o.dst&&Region.noSelect ops&&Region.free .any ops listed i&&(Region.ready .any ops listed).contains i&&Region.closedB .any ops listed&&(false||Region.lastB .any ops listed ds i))with
      | false=>rw[hb]at h0; cases h0
      | true=>
        rw[hb]at h0
        simp only[cond_true]at h0
        have hb':=hb
        simp only[Bool.and_eq_true,Bool.false_or]at hb'
        obtain⟨⟨⟨⟨⟨⟨hsome,hd⟩,hs⟩,hf⟩,hr⟩,hcl⟩,hla⟩:=hb'
        rw[show (i::r).length+fuel=(r.length+fuel)+1 from by simp; omega]
        split at h0
        · rename_i hg
          split at h0
          · rename_i v w1 cs1 h1
            split at h0
            · rename_i vs2 ls l2 ws cs2 h2
              simp only[Option.some.injEq,Prod.mk.injEq,List.length_cons,List.replicate_succ,List.cons.injEq]at h0
              obtain⟨rfl,rfl,rfl,_,_⟩:=h0
              have hall:∀ w,∃ c1 c2,gx1 P l w o (ovOf ov o.dst)=some (v,w,c1)∧gA P N ops ov ds false w r (listed.setIfInBounds i true) (putS l o.dst v)=some (vs2,ls,l2,List.replicate r.length w,c2)∧cs w=c1++c2:=by
                intro w
                have hw:=h w
                simp only[gA,ho,hb,cond_true,hg]at hw
                split at hw
                · rename_i v' w' c1 e1
                  split at hw
                  · rename_i vs' ls' l2' ws' c2 e2
                    simp only[Option.some.injEq,Prod.mk.injEq,List.length_cons,List.replicate_succ,List.cons.injEq]at hw
                    obtain⟨⟨rfl,rfl⟩,rfl,rfl,⟨rfl,rfl⟩,hcw⟩:=hw
                    exact⟨c1,c2,e1,e2,hcw.symm⟩
                  · cases hw
                · cases hw
              refine wpAnyLast_take (v:=v) ho hs hf hr hcl hla (deaf_lift hq _ _) (.inl ⟨gd_ok ha hg,fun w hw=>?_⟩) hS ?_
              · obtain⟨c1,c2,e1,_,ec⟩:=hall w
                have hcw:=hc w hw
                rw[ec]at hcw
                rcases gx1_ok e1 (allP_append hcw).1 ha with hrun|⟨_,_,hn⟩
                · exact hrun
                · rw[hn]at hsome; cases hsome
              · exact ih _ _ _ _ _ (fun w=>((gA P N ops ov ds false w r (listed.setIfInBounds i true) (putS l o.dst v)).map (·.2.2.2.2)).getD []) (fun w=>by
                  obtain⟨c1,c2,_,e2,_⟩:=hall w
                  rw[e2]; rfl) (fun w hw=>by
                  obtain⟨c1,c2,_,e2,ec⟩:=hall w
                  rw[e2]
                  have hcw:=hc w hw
                  rw[ec]at hcw
                  exact(allP_append hcw).2) hn _ (ha.putS hd v)
            · cases h0
          · cases h0
        · rename_i hg
          split at h0
          · rename_i vs2 ls l2 ws cs2 h2
            simp only[Option.some.injEq,Prod.mk.injEq,List.length_cons,List.replicate_succ,List.cons.injEq]at h0
            obtain⟨rfl,rfl,rfl,_,_⟩:=h0
            have hall:∀ w,gA P N ops ov ds false w r (listed.setIfInBounds i true) (putS l o.dst undef)=some (vs2,ls,l2,List.replicate r.length w,cs w):=by
              intro w
              have hw:=h w
              simp only[gA,ho,hb,cond_true,hg]at hw
              split at hw
              · rename_i vs' ls' l2' ws' c2 e2
                simp only[Option.some.injEq,Prod.mk.injEq,List.length_cons,List.replicate_succ,List.cons.injEq]at hw
                obtain⟨⟨_,rfl⟩,rfl,rfl,⟨_,rfl⟩,rfl⟩:=hw
                exact e2
              · cases hw
            exact wpAnyLast_take (v:=undef) ho hs hf hr hcl hla (deaf_lift hq _ _) (.inr ⟨gd_ok ha hg,rfl⟩) hS (ih _ _ _ _ _ cs hall hc hn _ (ha.putS hd undef))
          · cases h0
        · cases h0

section
variable {P : Program} {N : Nat} {ops : Array Oper} {S : World → Prop} {w : World} {ds : List Nat} {qs : QS} {l : Slots}
theorem XG_run {fuel fuel':Nat}{listed:Array Bool}(hS:S w)(ids:List Nat)(ov:List (Nat×Ov))(vs:List Value)(listed':Array Bool)(l':Slots)(cs:World→List Prop)(hc:∀ w,S w→allP (cs w))(hn:XG P N ops S ds fuel' listed' qs l' w)(hq:Deaf qs:=by exact fun _ _ _ _ h=>h)
    (h:∀ w,(gA P N ops ov ds false w ids listed l).map (fun r=>(r.1,r.2.1,keep r.2.2.1 (l'.map (·.1)),r.2.2.2))=some (vs,listed',l',List.replicate ids.length w,cs w):=by intro w_; kernel_rfl) (hf:fuel=ids.length+fuel':=by rfl):XG P N ops S ds fuel listed qs l w:=by
  subst hf
  have h2:∀ w,gA P N ops ov ds false w ids listed l=some (vs,listed',putIds ops ids vs l,List.replicate ids.length w,cs w)∧keep (putIds ops ids vs l) (l'.map (·.1))=l':=by
    intro w
    obtain⟨r,hr,he⟩:=Option.map_eq_some_iff.1 (h w)
    obtain⟨vs1,ls1,l1,ws1,cs1⟩:=r
    simp only[Prod.mk.injEq]at he
    obtain⟨rfl,rfl,he,rfl,rfl⟩:=he
    have:=gA_slots _ _ _ _ _ _ _ _ hr
    subst this
    exact⟨hr,he⟩
  refine XG_gP hq hS ids listed l _ _ _ _ (fun w=>(h2 w).1) hc ?_
  intro a ha
  exact hn a (by rw[←(h2 w).2]; exact ha.keep _)
theorem XG_mid {fuel fuel':Nat}{listed:Array Bool}(i:Nat)(listed':Array Bool)(o:Oper)(h0:ops[i]?=some o)(hr:Region.ready .any ops listed=[i])(hl:listed.setIfInBounds i true=listed')(hf:fuel=fuel'+1)
    (h:XL P N ops [o] (thenS (fun l' w'=>S w'∧XG P N ops S ds fuel' listed' qs l' w') qs) l w):XG P N ops S ds fuel listed qs l w:=by
  subst hf
  subst hl
  intro a ha
  refine wpAnyLast_all hr (by simp) fun j hj=>?_
  obtain rfl:j=i:=by simpa using hj
  have h1:=h a ha
  unfold wpOp
  simp only[h0]
  have hm:∀ a' w',lift N (thenS (fun l' w'=>S w'∧XG P N ops S ds fuel' (listed.setIfInBounds j true) qs l' w') qs) .normal a' w'→
      (j∉ds→S w→S w')∧wpAnyLast P .any ops (lift N qs) S ds fuel' (listed.setIfInBounds j true) a' w':=by
    rintro a' w' ⟨l',hl',hb,hx⟩
    exact⟨fun _ _=>hb,hx a' hl'⟩
  unfold wpList at h1
  split at h1
  · rename_i hw
    rw[if_pos hw]
    refine h1.imp (fun h1=>upon_Q (Q:=lift N (thenS (fun l' w'=>S w'∧XG P N ops S ds fuel' (listed.setIfInBounds j true) qs l' w') qs)) (fun _ _ _ hx=>hx) (fun hx=>hx) (Oper.wp_mono (fun a' w' hx=>hm a' w' hx) h1)) (fun h=>h)
  · rename_i hw
    rw[if_neg hw]
    exact hm _ _ h1
theorem XG_done {fuel:Nat}{listed:Array Bool}(hr:Region.ready .any ops listed=[])(h:qs .normal l w):XG P N ops S ds fuel listed qs l w:=fun a ha=>wpAnyLast_done hr ⟨l,ha,h⟩ fuel
theorem X_gen {id:Nat}(ds:List Nat)(fuel:Nat)(listed:Array Bool)(hm:P.follows .mixedOrders=true)(hs:ops.size=fuel)(hl:Array.replicate fuel false=listed)
    (h:∀ wd,Below w.heap.size w wd→wd.heap=w.heap→XG P N ops S ds fuel listed qs l wd):X P N (.region id ops true) qs l w:=by
  subst hs
  subst hl
  intro a ha
  exact wp_region_last hm (S:=S) (ds:=ds) (h _ (below_drew w) rfl a ha)
theorem XG_runC {fuel fuel':Nat}{listed:Array Bool}(hS:S w)(ids:List Nat)(ov:List (Nat×Ov))(vs:List Value)(listed':Array Bool)(new:Slots)(dd:List Nat)(cs:World→List Prop)(hc:∀ w,S w→allP (cs w))(hn:XG P N ops S ds fuel' listed' qs (nx new l dd) w)
    (hq:Deaf qs:=by exact fun _ _ _ _ h=>h) (h:∀ w,(gA P N ops ov ds false w ids listed l).map (fun r=>(r.1,r.2.1,keep r.2.2.1 ((nx new l dd).map (·.1)),r.2.2.2))=some (vs,listed',nx new l dd,List.replicate ids.length w,cs w):=by intro w_; kernel_rfl) (hf:fuel=ids.length+fuel':=by rfl):XG P N ops S ds fuel listed qs l w:=XG_run hS ids ov vs listed' (nx new l dd) cs hc hn hq h hf
end
def XB (P:Program)(N:Nat)(ops:Array Oper)(wd:World)(ds:List Nat)(fuel:Nat)(listed:Array Bool)(qs:QS)(l:Slots)(w:World):Prop:=
  ∀ a,Fr N l a→wpAnyLast P .any ops (lift N qs) (fun w'=>Below wd.heap.size wd w') ds fuel listed a w

theorem XB_gP {P:Program}{N:Nat}{ops:Array Oper}{wd w0:World}{ds:List Nat}{qs:QS}{ov:List (Nat×Ov)}{fuel:Nat}(hq:Deaf qs)(hS:Below wd.heap.size wd w0):∀ (ids:List Nat) (listed:Array Bool) (l:Slots) (vs:List Value) (listed':Array Bool) (l':Slots) (cs:World→List Prop),
    (∀ w,gA P N ops ov ds false w ids listed l=some (vs,listed',l',List.replicate ids.length w,cs w))→(∀ w,Below wd.heap.size wd w→allP (cs w))→XB P N ops wd ds fuel listed' qs l' w0→XB P N ops wd ds (ids.length+fuel) listed qs l w0:=by
  intro ids
  induction ids with
  | nil=>
    intro listed l vs listed' l' cs h _ hn
    have h:=h w0
    simp only[gA,Option.some.injEq,Prod.mk.injEq]at h
    obtain⟨_,rfl,rfl,_⟩:=h
    simpa using hn
  | cons i r ih=>
    intro listed l vs listed' l' cs h hc hn a ha
    have h0:=h w0
    simp only[gA]at h0
    split at h0
    · cases h0
    · rename_i o ho
      cases hb:(o.dst.isSome&&okD N o.dst&&Region.noSelect ops&&Region.free .any ops listed i&&(Region.ready .any ops listed).contains i&&Region.closedB .any ops listed&&(false||Region.lastB .any ops listed ds i))with
      | false=>rw[hb]at h0; cases h0
      | true=>
        rw[hb]at h0
        simp only[cond_true]at h0
        have hb':=hb
        simp only[Bool.and_eq_true,Bool.false_or]at hb'
        obtain⟨⟨⟨⟨⟨⟨hsome,hd⟩,hs⟩,hf⟩,hr⟩,hcl⟩,hla⟩:=hb'
        rw[show (i::r).length+fuel=(r.length+fuel)+1 from by simp; omega]
        split at h0
        · rename_i hg
          split at h0
          · rename_i v w1 cs1 h1
            split at h0
            · rename_i vs2 ls l2 ws cs2 h2
              simp only[Option.some.injEq,Prod.mk.injEq,List.length_cons,List.replicate_succ,List.cons.injEq]at h0
              obtain⟨rfl,rfl,rfl,_,_⟩:=h0
              have hall:∀ w,∃ c1 c2,gx1 P l w o (ovOf ov o.dst)=some (v,w,c1)∧gA P N ops ov ds false w r (listed.setIfInBounds i true) (putS l o.dst v)=some (vs2,ls,l2,List.replicate r.length w,c2)∧cs w=c1++c2:=by
                intro w
                have hw:=h w
                simp only[gA,ho,hb,cond_true,hg]at hw
                split at hw
                · rename_i v' w' c1 e1
                  split at hw
                  · rename_i vs' ls' l2' ws' c2 e2
                    simp only[Option.some.injEq,Prod.mk.injEq,List.length_cons,List.replicate_succ,List.cons.injEq]at hw
                    obtain⟨⟨rfl,rfl⟩,rfl,rfl,⟨rfl,rfl⟩,hcw⟩:=hw
                    exact⟨c1,c2,e1,e2,hcw.symm⟩
                  · cases hw
                · cases hw
              refine wpAnyLast_take (v:=v) ho hs hf hr hcl hla (deaf_lift hq _ _) (.inl ⟨gd_ok ha hg,fun w hw=>?_⟩) hS ?_
              · obtain⟨c1,c2,e1,_,ec⟩:=hall w
                have hcw:=hc w hw
                rw[ec]at hcw
                rcases gx1_ok e1 (allP_append hcw).1 ha with hrun|⟨_,_,hn⟩
                · exact hrun
                · rw[hn]at hsome; cases hsome
              · exact ih _ _ _ _ _ (fun w=>((gA P N ops ov ds false w r (listed.setIfInBounds i true) (putS l o.dst v)).map (·.2.2.2.2)).getD []) (fun w=>by
                  obtain⟨c1,c2,_,e2,_⟩:=hall w
                  rw[e2]; rfl) (fun w hw=>by
                  obtain⟨c1,c2,_,e2,ec⟩:=hall w
                  rw[e2]
                  have hcw:=hc w hw
                  rw[ec]at hcw
                  exact(allP_append hcw).2) hn _ (ha.putS hd v)
            · cases h0
          · cases h0
        · rename_i hg
          split at h0
          · rename_i vs2 ls l2 ws cs2 h2
            simp only[Option.some.injEq,Prod.mk.injEq,List.length_cons,List.replicate_succ,List.cons.injEq]at h0
            obtain⟨rfl,rfl,rfl,_,_⟩:=h0
            have hall:∀ w,gA P N ops ov ds false w r (listed.setIfInBounds i true) (putS l o.dst undef)=some (vs2,ls,l2,List.replicate r.length w,cs w):=by
              intro w
              have hw:=h w
              simp only[gA,ho,hb,cond_true,hg]at hw
              split at hw
              · rename_i vs' ls' l2' ws' c2 e2
                simp only[Option.some.injEq,Prod.mk.injEq,List.length_cons,List.replicate_succ,List.cons.injEq]at hw
                obtain⟨⟨_,rfl⟩,rfl,rfl,⟨_,rfl⟩,rfl⟩:=hw
                exact e2
              · cases hw
            exact wpAnyLast_take (v:=undef) ho hs hf hr hcl hla (deaf_lift hq _ _) (.inr ⟨gd_ok ha hg,rfl⟩) hS (ih _ _ _ _ _ cs hall hc hn _ (ha.putS hd undef))
          · cases h0
        · cases h0

section
variable {P : Program} {N : Nat} {ops : Array Oper} {wd w : World} {ds : List Nat} {qs : QS} {l : Slots}
theorem XB_run {fuel fuel':Nat}{listed:Array Bool}(hS:Below wd.heap.size wd w)(ids:List Nat)(ov:List (Nat×Ov))(vs:List Value)(listed':Array Bool)(l':Slots)(cs:World→List Prop)(hc:∀ w,Below wd.heap.size wd w→allP (cs w))(hn:XB P N ops wd ds fuel' listed' qs l' w)(hq:Deaf qs:=by exact fun _ _ _ _ h=>h)
    (h:∀ w,(gA P N ops ov ds false w ids listed l).map (fun r=>(r.1,r.2.1,keep r.2.2.1 (l'.map (·.1)),r.2.2.2))=some (vs,listed',l',List.replicate ids.length w,cs w):=by intro w_; kernel_rfl) (hf:fuel=ids.length+fuel':=by rfl):XB P N ops wd ds fuel listed qs l w:=by
  subst hf
  have h2:∀ w,gA P N ops ov ds false w ids listed l=some (vs,listed',putIds ops ids vs l,List.replicate ids.length w,cs w)∧keep (putIds ops ids vs l) (l'.map (·.1))=l':=by
    intro w
    obtain⟨r,hr,he⟩:=Option.map_eq_some_iff.1 (h w)
    obtain⟨vs1,ls1,l1,ws1,cs1⟩:=r
    simp only[Prod.mk.injEq]at he
    obtain⟨rfl,rfl,he,rfl,rfl⟩:=he
    have:=gA_slots _ _ _ _ _ _ _ _ hr
    subst this
    exact⟨hr,he⟩
  refine XB_gP hq hS ids listed l _ _ _ _ (fun w=>(h2 w).1) hc ?_
  intro a ha
  exact hn a (by rw[←(h2 w).2]; exact ha.keep _)
theorem XB_act {fuel fuel':Nat}{listed:Array Bool}(i:Nat)(listed':Array Bool)(o:Oper)(h0:ops[i]?=some o)(hr:Region.ready .any ops listed=[i])(hi:ds.contains i=true)(hl:listed.setIfInBounds i true=listed')(hf:fuel=fuel'+1)
    (h:XL P N ops [o] (thenS (fun l' w'=>XB P N ops wd ds fuel' listed' qs l' w') qs) l w):XB P N ops wd ds fuel listed qs l w:=by
  subst hf
  subst hl
  intro a ha
  refine wpAnyLast_all hr (by simp) fun j hj=>?_
  obtain rfl:j=i:=by simpa using hj
  have h1:=h a ha
  unfold wpOp
  simp only[h0]
  have hm:∀ a' w',lift N (thenS (fun l' w'=>XB P N ops wd ds fuel' (listed.setIfInBounds j true) qs l' w') qs) .normal a' w'→
      (j∉ds→Below wd.heap.size wd w→Below wd.heap.size wd w')∧wpAnyLast P .any ops (lift N qs) (fun w'=>Below wd.heap.size wd w') ds fuel' (listed.setIfInBounds j true) a' w':=by
    rintro a' w' ⟨l',hl',hx⟩
    exact⟨fun hn=>absurd (by simpa using hi) hn,hx a' hl'⟩
  unfold wpList at h1
  split at h1
  · rename_i hw
    rw[if_pos hw]
    refine h1.imp (fun h1=>upon_Q (Q:=lift N (thenS (fun l' w'=>XB P N ops wd ds fuel' (listed.setIfInBounds j true) qs l' w') qs)) (fun _ _ _ hx=>hx) (fun hx=>hx) (Oper.wp_mono (fun a' w' hx=>hm a' w' hx) h1)) (fun h=>h)
  · rename_i hw
    rw[if_neg hw]
    exact hm _ _ h1
theorem XB_mid {fuel fuel':Nat}{listed:Array Bool}(i:Nat)(listed':Array Bool)(o:Oper)(h0:ops[i]?=some o)(hr:Region.ready .any ops listed=[i])(hl:listed.setIfInBounds i true=listed')(hf:fuel=fuel'+1)
    (h:XL P N ops [o] (thenS (fun l' w'=>Below wd.heap.size wd w'∧XB P N ops wd ds fuel' listed' qs l' w') qs) l w):XB P N ops wd ds fuel listed qs l w:=by
  subst hf
  subst hl
  intro a ha
  refine wpAnyLast_all hr (by simp) fun j hj=>?_
  obtain rfl:j=i:=by simpa using hj
  have h1:=h a ha
  unfold wpOp
  simp only[h0]
  have hm:∀ a' w',lift N (thenS (fun l' w'=>Below wd.heap.size wd w'∧XB P N ops wd ds fuel' (listed.setIfInBounds j true) qs l' w') qs) .normal a' w'→
      (j∉ds→Below wd.heap.size wd w→Below wd.heap.size wd w')∧wpAnyLast P .any ops (lift N qs) (fun w'=>Below wd.heap.size wd w') ds fuel' (listed.setIfInBounds j true) a' w':=by
    rintro a' w' ⟨l',hl',hb,hx⟩
    exact⟨fun _ _=>hb,hx a' hl'⟩
  unfold wpList at h1
  split at h1
  · rename_i hw
    rw[if_pos hw]
    refine h1.imp (fun h1=>upon_Q (Q:=lift N (thenS (fun l' w'=>Below wd.heap.size wd w'∧XB P N ops wd ds fuel' (listed.setIfInBounds j true) qs l' w') qs)) (fun _ _ _ hx=>hx) (fun hx=>hx) (Oper.wp_mono (fun a' w' hx=>hm a' w' hx) h1)) (fun h=>h)
  · rename_i hw
    rw[if_neg hw]
    exact hm _ _ h1
theorem XB_done {fuel:Nat}{listed:Array Bool}(hr:Region.ready .any ops listed=[])(h:qs .normal l w):XB P N ops wd ds fuel listed qs l w:=fun a ha=>wpAnyLast_done hr ⟨l,ha,h⟩ fuel
theorem X_grow {id:Nat}(ds:List Nat)(fuel:Nat)(listed:Array Bool)(hm:P.follows .mixedOrders=true)(hs:ops.size=fuel)(hl:Array.replicate fuel false=listed)
    (h:∀ wd,Below w.heap.size w wd→wd.heap=w.heap→XB P N ops wd ds fuel listed qs l wd):X P N (.region id ops true) qs l w:=by
  subst hs
  subst hl
  intro a ha
  exact wp_region_last hm (S:=fun w'=>Below (World.heap { w with drawn:=w.drawn+1 }).size { w with drawn:=w.drawn+1 } w') (ds:=ds) (h _ (below_drew w) rfl a ha)
theorem XB_runC {fuel fuel':Nat}{listed:Array Bool}(hS:Below wd.heap.size wd w)(ids:List Nat)(ov:List (Nat×Ov))(vs:List Value)(listed':Array Bool)(new:Slots)(dd:List Nat)(cs:World→List Prop)(hc:∀ w,Below wd.heap.size wd w→allP (cs w))(hn:XB P N ops wd ds fuel' listed' qs (nx new l dd) w)
    (hq:Deaf qs:=by exact fun _ _ _ _ h=>h) (h:∀ w,(gA P N ops ov ds false w ids listed l).map (fun r=>(r.1,r.2.1,keep r.2.2.1 ((nx new l dd).map (·.1)),r.2.2.2))=some (vs,listed',nx new l dd,List.replicate ids.length w,cs w):=by intro w_; kernel_rfl) (hf:fuel=ids.length+fuel':=by rfl):XB P N ops wd ds fuel listed qs l w:=XB_run hS ids ov vs listed' (nx new l dd) cs hc hn hq h hf
end
end Go.Proofs.YtlnnjfdonilgmaaGreatDoor.RX
