/- Regions that draw their order and act: what only looks is taken first, what acts comes alone. No condition. -/
import Derived.Test.YtlnnjfdonilgmaaGreatDoorRX
import Derived.Test.YtlnnjfdonilgmaaGreatDoorWLast
set_option linter.unusedVariables false
set_option linter.unusedSimpArgs false
namespace Go.Proofs.YtlnnjfdonilgmaaGreatDoor.RX
open Go Go.RowKit Go.Proofs.YtlnnjfdonilgmaaGreatDoorW.PrintLast

def XA (P:Program)(N:Nat)(ops:Array Oper)(wd:World)(ds:List Nat)(fuel:Nat)(listed:Array Bool)(qs:QS)(l:Slots)(w:World):Prop:=
  ∀ a,Fr N l a→wpAnyLast P .any ops (lift N qs) (fun w'=>w'=wd) ds fuel listed a w

def Deaf (qs:QS):Prop:=∀ c l l' w,qs (.panic c) l w→qs (.panic c) l' w

theorem deaf_lift {N:Nat}{qs:QS}(hq:Deaf qs)(d:Option Tmp)(v:Value):∀ c a w,lift N qs (.panic c) (a.put d v) w→lift N qs (.panic c) a w:=by
  rintro c a w ⟨l,hl,h⟩
  refine⟨keep l [],⟨?_,hl.lt,?_,fun i u hu=>?_⟩,hq _ _ _ _ h⟩
  · have:=hl.size
    cases d<;>simpa [Act.put] using this
  · have:=hl.defers
    rw[dsOf_keep]
    cases d<;>simpa [Act.put] using this
  · exfalso
    obtain⟨hi,hu⟩:=look_some hu
    simp only[keep]at hu
    split at hu
    · rw[lookS_ne hi]at hu; simp[lookS]at hu
    · simp[lookS]at hu

def gA (P:Program) (N:Nat) (ops:Array Oper) (ov:List (Nat×Ov)) (ds:List Nat) (pure:Bool) (w:World):List Nat→Array Bool→Slots→Option (List Value×Array Bool×Slots×List World×List Prop)
  | [],listed,l=>some ([],listed,l,[],[])
  | i::r,listed,l=>
    match ops[i]? with
    | none=>none
    | some o=>
      bif o.dst.isSome&&okD N o.dst&&Region.noSelect ops&&Region.free .any ops listed i&&(Region.ready .any ops listed).contains i&&Region.closedB .any ops listed&&(pure||Region.lastB .any ops listed ds i)then
      match gd ops l o with
      | some true=>match gx1 P l w o (ovOf ov o.dst)with
        | some (v,w',cs)=>match gA P N ops ov ds pure w r (listed.setIfInBounds i true) (putS l o.dst v)with
          | some (vs,ls,l2,ws,cs2)=>some (v::vs,ls,l2,w'::ws,cs++cs2)
          | none=>none
        | none=>none
      | some false=>match gA P N ops ov ds pure w r (listed.setIfInBounds i true) (putS l o.dst undef)with
          | some (vs,ls,l2,ws,cs2)=>some (undef::vs,ls,l2,w::ws,cs2)
          | none=>none
      | none=>none
      else none

theorem XA_gA {P:Program}{N:Nat}{ops:Array Oper}{wd:World}{ds:List Nat}{qs:QS}{ov:List (Nat×Ov)}{fuel:Nat}(hq:Deaf qs):∀ (ids:List Nat) (listed:Array Bool) (l:Slots) (vs:List Value) (listed':Array Bool) (l':Slots) (cs:List Prop),
    gA P N ops ov ds false wd ids listed l=some (vs,listed',l',List.replicate ids.length wd,cs)→allP cs→XA P N ops wd ds fuel listed' qs l' wd→XA P N ops wd ds (ids.length+fuel) listed qs l wd:=by
  intro ids
  induction ids with
  | nil=>
    intro listed l vs listed' l' cs h _ hn
    simp only[gA,Option.some.injEq,Prod.mk.injEq]at h
    obtain⟨_,rfl,rfl,_,rfl⟩:=h
    simpa using hn
  | cons i r ih=>
    intro listed l vs listed' l' cs h hc hn a ha
    simp only[gA]at h
    split at h
    · cases h
    · rename_i o ho
      cases hb:(o.dst.isSome&&okD N o.dst&&Region.noSelect ops&&Region.free .any ops listed i&&(Region.ready .any ops listed).contains i&&Region.closedB .any ops listed&&(false||Region.lastB .any ops listed ds i))with
      | false=>rw[hb]at h; cases h
      | true=>
        rw[hb]at h
        simp only[cond_true]at h
        simp only[Bool.and_eq_true,Bool.false_or]at hb
        obtain⟨⟨⟨⟨⟨⟨hsome,hd⟩,hs⟩,hf⟩,hr⟩,hcl⟩,hla⟩:=hb
        rw[show (i::r).length+fuel=(r.length+fuel)+1 from by simp; omega]
        split at h
        · rename_i hg
          split at h
          · rename_i v w1 cs1 h1
            split at h
            · rename_i vs2 ls l2 ws cs2 h2
              simp only[Option.some.injEq,Prod.mk.injEq,List.length_cons,List.replicate_succ,List.cons.injEq]at h
              obtain⟨rfl,rfl,rfl,⟨rfl,rfl⟩,rfl⟩:=h
              obtain⟨hc1,hc2⟩:=allP_append hc
              have hk:=ih _ _ _ _ _ _ h2 hc2 hn _ (ha.putS hd v)
              rcases gx1_ok h1 hc1 ha with hrun|⟨_,_,hn⟩
              · exact wpAnyLast_take (v:=v) ho hs hf hr hcl hla (deaf_lift hq _ _) (.inl ⟨gd_ok ha hg,fun w hw=>by subst hw; exact hrun⟩) rfl hk
              · rw[hn]at hsome; cases hsome
            · cases h
          · cases h
        · rename_i hg
          split at h
          · rename_i vs2 ls l2 ws cs2 h2
            simp only[Option.some.injEq,Prod.mk.injEq,List.length_cons,List.replicate_succ,List.cons.injEq]at h
            obtain⟨rfl,rfl,rfl,⟨_,rfl⟩,rfl⟩:=h
            have hk:=ih _ _ _ _ _ _ h2 hc hn _ (ha.putS hd undef)
            exact wpAnyLast_take (v:=undef) ho hs hf hr hcl hla (deaf_lift hq _ _) (.inr ⟨gd_ok ha hg,rfl⟩) rfl hk
          · cases h
        · cases h

theorem XA_gP {P:Program}{N:Nat}{ops:Array Oper}{wd w0:World}{ds:List Nat}{qs:QS}{ov:List (Nat×Ov)}{fuel:Nat}(hq:Deaf qs):∀ (ids:List Nat) (listed:Array Bool) (l:Slots) (vs:List Value) (listed':Array Bool) (l':Slots) (cs:World→List Prop),
    (∀ w,gA P N ops ov ds true w ids listed l=some (vs,listed',l',List.replicate ids.length w,cs w))→(∀ w,allP (cs w))→XA P N ops wd ds fuel listed' qs l' w0→XA P N ops wd ds (ids.length+fuel) listed qs l w0:=by
  intro ids
  induction ids with
  | nil=>
    intro listed l vs listed' l' cs h _ hn
    have h:=h w0
    simp only[gA,Option.some.injEq,Prod.mk.injEq]at h
    obtain⟨_,rfl,rfl,_⟩:=h
    simpa using hn
  | cons i r ih=>
    intro listed l vs listed' l' cs h hc hn a ha
    have h0:=h w0
    simp only[gA]at h0
    split at h0
    · cases h0
    · rename_i o ho
      cases hb:(o.dst.isSome&&okD N o.dst&&Region.noSelect ops&&Region.free .any ops listed i&&(Region.ready .any ops listed).contains i&&Region.closedB .any ops listed&&(true||Region.lastB .any ops listed ds i))with
      | false=>rw[hb]at h0; cases h0
      | true=>
        rw[hb]at h0
        simp only[cond_true]at h0
        have hb':=hb
        simp only[Bool.and_eq_true]at hb'
        obtain⟨⟨⟨⟨⟨⟨hsome,hd⟩,hs⟩,hf⟩,hr⟩,hcl⟩,_⟩:=hb'
        rw[show (i::r).length+fuel=(r.length+fuel)+1 from by simp; omega]
        split at h0
        · rename_i hg
          split at h0
          · rename_i v w1 cs1 h1
            split at h0
            · rename_i vs2 ls l2 ws cs2 h2
              simp only[Option.some.injEq,Prod.mk.injEq,List.length_cons,List.replicate_succ,List.cons.injEq]at h0
              obtain⟨rfl,rfl,rfl,_,_⟩:=h0
              have hall:∀ w,∃ c1 c2,gx1 P l w o (ovOf ov o.dst)=some (v,w,c1)∧gA P N ops ov ds true w r (listed.setIfInBounds i true) (putS l o.dst v)=some (vs2,ls,l2,List.replicate r.length w,c2)∧cs w=c1++c2:=by
                intro w
                have hw:=h w
                simp only[gA,ho,hb,cond_true,hg]at hw
                split at hw
                · rename_i v' w' c1 e1
                  split at hw
                  · rename_i vs' ls' l2' ws' c2 e2
                    simp only[Option.some.injEq,Prod.mk.injEq,List.length_cons,List.replicate_succ,List.cons.injEq]at hw
                    obtain⟨⟨rfl,rfl⟩,rfl,rfl,⟨rfl,rfl⟩,hcw⟩:=hw
                    exact⟨c1,c2,e1,e2,hcw.symm⟩
                  · cases hw
                · cases hw
              refine wpAnyLast_any (v:=v) ho (Region.noSelect_spec hs) (deaf_lift hq _ _) _ _ _ _ (Region.free_spec ho hf) (by simpa using hr) (.inl ⟨gd_ok ha hg,fun w=>?_⟩) ?_
              · obtain⟨c1,c2,e1,_,ec⟩:=hall w
                have hcw:=hc w
                rw[ec]at hcw
                rcases gx1_ok e1 (allP_append hcw).1 ha with hrun|⟨_,_,hn⟩
                · exact hrun
                · rw[hn]at hsome; cases hsome
              · exact ih _ _ _ _ _ (fun w=>((gA P N ops ov ds true w r (listed.setIfInBounds i true) (putS l o.dst v)).map (·.2.2.2.2)).getD []) (fun w=>by
                  obtain⟨c1,c2,_,e2,_⟩:=hall w
                  rw[e2]; rfl) (fun w=>by
                  obtain⟨c1,c2,_,e2,ec⟩:=hall w
                  rw[e2]
                  have hcw:=hc w
                  rw[ec]at hcw
                  exact(allP_append hcw).2) hn _ (ha.putS hd v)
            · cases h0
          · cases h0
        · rename_i hg
          split at h0
          · rename_i vs2 ls l2 ws cs2 h2
            simp only[Option.some.injEq,Prod.mk.injEq,List.length_cons,List.replicate_succ,List.cons.injEq]at h0
            obtain⟨rfl,rfl,rfl,_,_⟩:=h0
            have hall:∀ w,gA P N ops ov ds true w r (listed.setIfInBounds i true) (putS l o.dst undef)=some (vs2,ls,l2,List.replicate r.length w,cs w):=by
              intro w
              have hw:=h w
              simp only[gA,ho,hb,cond_true,hg]at hw
              split at hw
              · rename_i vs' ls' l2' ws' c2 e2
                simp only[Option.some.injEq,Prod.mk.injEq,List.length_cons,List.replicate_succ,List.cons.injEq]at hw
                obtain⟨⟨_,rfl⟩,rfl,rfl,⟨_,rfl⟩,rfl⟩:=hw
                exact e2
              · cases hw
            exact wpAnyLast_any (v:=undef) ho (Region.noSelect_spec hs) (deaf_lift hq _ _) _ _ _ _ (Region.free_spec ho hf) (by simpa using hr) (.inr ⟨gd_ok ha hg,rfl⟩) (ih _ _ _ _ _ cs hall hc hn _ (ha.putS hd undef))
          · cases h0
        · cases h0

def putIds (ops:Array Oper):List Nat→List Value→Slots→Slots
  | i::r,v::vs,l=>putIds ops r vs (putS l ((ops[i]?).bind (·.dst)) v)
  | _,_,l=>l
theorem gA_slots {P:Program}{N:Nat}{ops:Array Oper}{ov:List (Nat×Ov)}{ds:List Nat}{b:Bool}{w:World}:∀ (ids:List Nat) (listed:Array Bool) (l:Slots) (vs:List Value) (ls:Array Bool) (l2:Slots) (ws:List World) (cs:List Prop),
    gA P N ops ov ds b w ids listed l=some (vs,ls,l2,ws,cs)→l2=putIds ops ids vs l:=by
  intro ids
  induction ids with
  | nil=>
    intro listed l vs ls l2 ws cs h
    simp only[gA,Option.some.injEq,Prod.mk.injEq]at h
    obtain⟨rfl,_,rfl,_⟩:=h
    rfl
  | cons i r ih=>
    intro listed l vs ls l2 ws cs h
    simp only[gA]at h
    split at h
    · cases h
    · rename_i o ho
      generalize (o.dst.isSome&&okD N o.dst&&Region.noSelect ops&&Region.free .any ops listed i&&(Region.ready .any ops listed).contains i&&Region.closedB .any ops listed&&(b||Region.lastB .any ops listed ds i))=c at h
      cases c with
      | false=>cases h
      | true=>
        simp only[cond_true]at h
        split at h
        · split at h
          · split at h
            · rename_i vs2 ls2 l3 ws2 cs2 h2
              simp only[Option.some.injEq,Prod.mk.injEq]at h
              obtain⟨rfl,_,rfl,_⟩:=h
              simp only[putIds,ho,Option.bind_some]
              exact ih _ _ _ _ _ _ _ h2
            · cases h
          · cases h
        · split at h
          · rename_i vs2 ls2 l3 ws2 cs2 h2
            simp only[Option.some.injEq,Prod.mk.injEq]at h
            obtain⟨rfl,_,rfl,_⟩:=h
            simp only[putIds,ho,Option.bind_some]
            exact ih _ _ _ _ _ _ _ h2
          · cases h
        · cases h
section
variable {P : Program} {N : Nat} {ops : Array Oper} {wd w : World} {ds : List Nat} {qs : QS} {l : Slots}
theorem XA_run {fuel fuel':Nat}{listed:Array Bool}(ids:List Nat)(ov:List (Nat×Ov))(vs:List Value)(listed':Array Bool)(l':Slots)(cs:List Prop)(hc:allP cs)(hn:XA P N ops wd ds fuel' listed' qs l' wd)(hq:Deaf qs:=by exact fun _ _ _ _ h=>h)
    (h:(gA P N ops ov ds false wd ids listed l).map (fun r=>(r.1,r.2.1,keep r.2.2.1 (l'.map (·.1)),r.2.2.2))=some (vs,listed',l',List.replicate ids.length wd,cs):=by kernel_rfl) (hf:fuel=ids.length+fuel':=by rfl):XA P N ops wd ds fuel listed qs l wd:=by
  obtain⟨r,hr,he⟩:=Option.map_eq_some_iff.1 h
  obtain⟨vs1,ls1,l1,ws1,cs1⟩:=r
  simp only[Prod.mk.injEq]at he
  obtain⟨rfl,rfl,he,rfl,rfl⟩:=he
  subst hf
  refine XA_gA hq ids listed l _ _ l1 _ hr hc ?_
  intro a ha
  exact hn a (by rw[←he]; exact ha.keep _)
theorem XA_pure {fuel fuel':Nat}{listed:Array Bool}(ids:List Nat)(ov:List (Nat×Ov))(vs:List Value)(listed':Array Bool)(l':Slots)(cs:World→List Prop)(hc:∀ w,allP (cs w))(hn:XA P N ops wd ds fuel' listed' qs l' w)(hq:Deaf qs:=by exact fun _ _ _ _ h=>h)
    (h:∀ w,(gA P N ops ov ds true w ids listed l).map (fun r=>(r.1,r.2.1,keep r.2.2.1 (l'.map (·.1)),r.2.2.2))=some (vs,listed',l',List.replicate ids.length w,cs w):=by intro w_; kernel_rfl) (hf:fuel=ids.length+fuel':=by rfl):XA P N ops wd ds fuel listed qs l w:=by
  subst hf
  have h2:∀ w,gA P N ops ov ds true w ids listed l=some (vs,listed',putIds ops ids vs l,List.replicate ids.length w,cs w)∧keep (putIds ops ids vs l) (l'.map (·.1))=l':=by
    intro w
    obtain⟨r,hr,he⟩:=Option.map_eq_some_iff.1 (h w)
    obtain⟨vs1,ls1,l1,ws1,cs1⟩:=r
    simp only[Prod.mk.injEq]at he
    obtain⟨rfl,rfl,he,rfl,rfl⟩:=he
    have:=gA_slots _ _ _ _ _ _ _ _ hr
    subst this
    exact⟨hr,he⟩
  refine XA_gP hq ids listed l _ _ _ _ (fun w=>(h2 w).1) hc ?_
  intro a ha
  exact hn a (by rw[←(h2 w).2]; exact ha.keep _)
theorem upon_Q {o:Oper}{a:Act}{K:Act→World→Prop}{Q Q':Exit→Act→World→Prop}(hp:∀ c a w,Q (.panic c) a w→Q' (.panic c) a w)(hl:LetsOut Q→LetsOut Q')(h:o.wp P a w K Q):o.wp P a w K Q':=by
  unfold Oper.wp at*
  generalize (execOp a.eval o).run P w=r at*
  cases r with
  | ok n w'=>
    cases n<;>simp only[Oper.upon]at h ⊢<;>
      first
        | exact h
        | exact Calls.mono h (fun e w'' he=>by cases e<;>first|exact he|exact hp _ _ _ he|exact hl he)
  | halt x w'=>cases x<;>simp only[Oper.upon]at h ⊢<;>first|exact hp _ _ _ h|exact h
theorem XA_act {fuel fuel':Nat}{listed:Array Bool}(i:Nat)(listed':Array Bool)(o:Oper)(h0:ops[i]?=some o)(hr:Region.ready .any ops listed=[i])(hi:ds.contains i=true)(hl:listed.setIfInBounds i true=listed')(hf:fuel=fuel'+1)
    (h:XL P N ops [o] (thenS (fun l' w'=>XA P N ops wd ds fuel' listed' qs l' w') qs) l w):XA P N ops wd ds fuel listed qs l w:=by
  subst hf
  subst hl
  intro a ha
  refine wpAnyLast_all hr (by simp) fun j hj=>?_
  obtain rfl:j=i:=by simpa using hj
  have h1:=h a ha
  unfold wpOp
  simp only[h0]
  have hm:∀ a' w',lift N (thenS (fun l' w'=>XA P N ops wd ds fuel' (listed.setIfInBounds j true) qs l' w') qs) .normal a' w'→
      (j∉ds→w=wd→w'=wd)∧wpAnyLast P .any ops (lift N qs) (fun w'=>w'=wd) ds fuel' (listed.setIfInBounds j true) a' w':=by
    rintro a' w' ⟨l',hl',hx⟩
    exact⟨fun hn=>absurd (by simpa using hi) hn,hx a' hl'⟩
  unfold wpList at h1
  split at h1
  · rename_i hw
    rw[if_pos hw]
    refine h1.imp (fun h1=>upon_Q (Q:=lift N (thenS (fun l' w'=>XA P N ops wd ds fuel' (listed.setIfInBounds j true) qs l' w') qs)) (fun _ _ _ hx=>hx) (fun hx=>hx) (Oper.wp_mono (fun a' w' hx=>hm a' w' hx) h1)) (fun h=>h)
  · rename_i hw
    rw[if_neg hw]
    exact hm _ _ h1
theorem XA_done {fuel:Nat}{listed:Array Bool}(hr:Region.ready .any ops listed=[])(h:qs .normal l w):XA P N ops wd ds fuel listed qs l w:=fun a ha=>wpAnyLast_done hr ⟨l,ha,h⟩ fuel
theorem X_any {id:Nat}(ds:List Nat)(fuel:Nat)(listed:Array Bool)(hm:P.follows .mixedOrders=true)(hs:ops.size=fuel)(hl:Array.replicate fuel false=listed)
    (h:∀ wd,Below w.heap.size w wd→wd.heap=w.heap→XA P N ops wd ds fuel listed qs l wd):X P N (.region id ops true) qs l w:=by
  subst hs
  subst hl
  intro a ha
  exact wp_region_last hm (S:=fun w'=>w'={ w with drawn:=w.drawn+1 }) (ds:=ds) (h _ (below_drew w) rfl a ha)
theorem XA_runC {fuel fuel':Nat}{listed:Array Bool}(ids:List Nat)(ov:List (Nat×Ov))(vs:List Value)(listed':Array Bool)(new:Slots)(dd:List Nat)(cs:List Prop)(hc:allP cs)(hn:XA P N ops wd ds fuel' listed' qs (nx new l dd) wd)
    (hq:Deaf qs:=by exact fun _ _ _ _ h=>h) (h:(gA P N ops ov ds false wd ids listed l).map (fun r=>(r.1,r.2.1,keep r.2.2.1 ((nx new l dd).map (·.1)),r.2.2.2))=some (vs,listed',nx new l dd,List.replicate ids.length wd,cs):=by kernel_rfl) (hf:fuel=ids.length+fuel':=by rfl):XA P N ops wd ds fuel listed qs l wd:=XA_run ids ov vs listed' (nx new l dd) cs hc hn hq h hf
theorem XA_pureC {fuel fuel':Nat}{listed:Array Bool}(ids:List Nat)(ov:List (Nat×Ov))(vs:List Value)(listed':Array Bool)(new:Slots)(dd:List Nat)(cs:World→List Prop)(hc:∀ w,allP (cs w))(hn:XA P N ops wd ds fuel' listed' qs (nx new l dd) w)
    (hq:Deaf qs:=by exact fun _ _ _ _ h=>h) (h:∀ w,(gA P N ops ov ds true w ids listed l).map (fun r=>(r.1,r.2.1,keep r.2.2.1 ((nx new l dd).map (·.1)),r.2.2.2))=some (vs,listed',nx new l dd,List.replicate ids.length w,cs w):=by intro w_; kernel_rfl) (hf:fuel=ids.length+fuel':=by rfl):XA P N ops wd ds fuel listed qs l w:=XA_pure ids ov vs listed' (nx new l dd) cs hc hn hq h hf
end
end Go.Proofs.YtlnnjfdonilgmaaGreatDoor.RX
