import Derived.Test.YtlnnjfdonilgmaaGreatDoorAn2
import Derived.Test.YtlnnjfdonilgmaaGreatDoorChg
import Derived.OrdersIn
import Derived.RangeFuncNested
import Derived.RangeFuncBound
import Derived.RangeFuncCalls
import Derived.RangeFuncLeaves
import Derived.Sort.LoopGhostIn
/- Loops over functions: their rounds, what a function with such loops leaves behind, calls of yield. No condition. -/
set_option linter.unusedVariables false
set_option linter.unusedSimpArgs false
namespace Go.Proofs.YtlnnjfdonilgmaaGreatDoor.RX
open Go Go.RowKit Go.Proofs.YtlnnjfdonilgmaaGreatDoorW.PrintWords

def wf (r:Option Nat):Fence:={ Fence.wide with round:=r }
def plainOp (o:Oper):Bool:=match o.op with
  | .defer _=>false
  | _=>true
theorem op_lift {r:Option Nat}{n:Nat}{P:Program}{o:Oper}{a:Act}{w:World}{K K':Act→World→Prop}{Q Q':Exit→Act→World→Prop}(hp:plainOp o=true)(hK:∀ a w,K a w→K' a w)(hc:∀ c a w,Q (.panic c) a w→Q' (.panic c) a w)(hQ:¬LetsOut Q)(h:o.wp P a w K Q):o.wpIn (wf r) n P a w K' Q':=by
  refine⟨fun _ _=>trivial,?_⟩
  rw[Oper.semAt_eq _ _ _ (fun c e=>by unfold plainOp at hp; rw[e]at hp; cases hp)]
  unfold Oper.wp at h
  revert h
  generalize (execOp a.eval o).run P w=res
  intro h
  cases res with
  | ok v w'=>
    cases v with
    | value v=>exact hK _ _ h
    | skip=>exact hK _ _ h
    | defer d=>exact hK _ _ h
    | enter f args=>
      refine⟨fun e=>(by cases e),?_⟩
      have h2:CallsIn Fence.wide (n-1) P f args w' _:=callsIn_wide.2 h
      refine CallsIn.mono (R:=_) h2 fun e w'' hR=>?_
      cases e with
      | returned v=>exact hK _ _ hR
      | panicked ch=>exact hc _ _ _ hR
      | outgrown=>exact absurd hR hQ
    | row row args=>
      refine⟨fun e=>(by cases e),?_⟩
      intro c cs hroom
      obtain⟨v,w'',hR,hs⟩:=h c cs
      exact⟨v,w'',hK _ _ hR,stepsIn_wide.2 hs⟩
    | _=>exact h.elim
  | halt hh w'=>
    cases hh with
    | panic v=>exact hc _ _ _ h
    | _=>exact h.elim
theorem list_lift {r:Option Nat}{n:Nat}{P:Program}{ops:Array Oper}{Q Q':Exit→Act→World→Prop}(os2:List Oper)(hN:∀ a w,Q .normal a w→wpListIn (wf r) n P ops Q' os2 a w)(hc:∀ c a w,Q (.panic c) a w→Q' (.panic c) a w)(hQ:¬LetsOut Q):∀ (os1:List Oper) (a:Act) (w:World),(os1.all plainOp)=true→
    wpList P ops Q os1 a w→wpListIn (wf r) n P ops Q' (os1++os2) a w
  | [],a,w,_,h=>hN a w h
  | o::os1,a,w,hp,h=>by
    simp only[List.all_cons,Bool.and_eq_true]at hp
    show wpListIn (wf r) n P ops Q' (o::(os1++os2)) a w
    unfold wpListIn
    unfold wpList at h
    split
    · rename_i hw
      rw[if_pos hw]at h
      rcases h with h|⟨_,h⟩
      · exact op_lift hp.1 (fun a w hk=>list_lift os2 hN hc hQ os1 a w hp.2 hk) hc hQ h
      · exact absurd h hQ
    · rename_i hw
      rw[if_neg hw]at h
      exact⟨fun _ _=>trivial,list_lift os2 hN hc hQ os1 _ _ hp.2 h⟩

def XI (r:Option Nat)(P:Program)(N:Nat)(c:Code)(qs:QS)(l:Slots)(w:World):Prop:=∀ (n:Nat) (a:Act),Fr N l a→c.wpIn (wf r) n P (lift N qs) a w
def XLI (r:Option Nat)(P:Program)(N:Nat)(ops:Array Oper)(os:List Oper)(qs:QS)(l:Slots)(w:World):Prop:=∀ (n:Nat) (a:Act),Fr N l a→wpListIn (wf r) n P ops (lift N qs) os a w
def Tight (qs:QS):Prop:=∀ l w,¬qs .outgrown l w
theorem tight_lift {N:Nat}{qs:QS}(h:Tight qs):¬LetsOut (lift N qs):=fun⟨_,w,l,_,hq⟩=>h l w hq
section
variable {r : Option Nat} {P : Program} {N : Nat} {ops : Array Oper} {qs : QS} {l : Slots} {w : World}
theorem tight_thenS {next:Slots→World→Prop}(h:Tight qs):Tight (thenS next qs):=fun l w=>h l w
theorem XLI_pre (k:Nat){os:List Oper}(hp:((os.take k).all plainOp)=true)(hq:Tight qs)(h:XL P N ops (os.take k) (thenS (fun l' w'=>XLI r P N ops (os.drop k) qs l' w') qs) l w):XLI r P N ops os qs l w:=by
  intro n a ha
  rw[←List.take_append_drop k os]
  refine list_lift (os.drop k) ?_ ?_ (tight_lift (tight_thenS hq)) _ _ _ hp (h a ha)
  · rintro a w ⟨l',hl',hq'⟩
    exact hq' n a hl'
  · rintro c a w ⟨l',hl',hq'⟩
    exact⟨l',hl',hq'⟩
theorem XLI_of {os:List Oper}(hp:(os.all plainOp)=true)(hq:Tight qs)(h:XL P N ops os qs l w):XLI r P N ops os qs l w:=by
  intro n a ha
  have:=list_lift (r:=r) (n:=n) (Q':=lift N qs) [] (fun _ _ h=>h) (fun _ _ _ h=>h) (tight_lift hq) os a w hp (h a ha)
  rwa [List.append_nil]at this
theorem XI_regionI {id:Nat}(h:XLI r P N ops ops.toList qs l w):XI r P N (.region id ops false) qs l w:=fun n a ha=>wpIn_region_list (h n a ha)
theorem XI_region {id:Nat}(hp:(ops.toList.all plainOp)=true)(hq:Tight qs)(h:XL P N ops ops.toList qs l w):XI r P N (.region id ops false) qs l w:=XI_regionI (XLI_of hp hq h)
theorem X_of_XI {c:Code}(h:XI none P N c qs l w):X P N c qs l w:=fun a ha=>wpIn_wide.1 (h 0 a ha)
theorem X_regionI {id:Nat}(h:XLI none P N ops ops.toList qs l w):X P N (.region id ops false) qs l w:=X_of_XI (XI_regionI h)
theorem XI_seq {x y:Code}(h:XI r P N x (thenS (XI r P N y qs) qs) l w):XI r P N (.seq x y) qs l w:=by
  intro n a ha
  refine wpIn_seq (wpIn_mono (h n a ha) ?_)
  rintro e a' w' ⟨l',hl',hq⟩
  cases e<;>first|exact hq n a' hl'|exact⟨l',hl',hq⟩
theorem XI_block {id:Nat}{c:Code}(h:XI r P N c (blockS id qs) l w):XI r P N (.block id c) qs l w:=by
  intro n a ha
  refine wpIn_block (wpIn_mono (h n a ha) ?_)
  rintro e a' w' ⟨l',hl',hq⟩
  cases e with
  | exit id'=>
    simp only[blockS]at hq
    cases hb:Nat.beq id' id with
    | true=>
      rw[hb]at hq
      have:id'=id:=Nat.eq_of_beq_eq_true hb
      subst this
      simp only[Exit.inBlock,if_true]
      exact⟨l',hl',hq⟩
    | false=>
      rw[hb]at hq
      have:id'≠id:=fun e=>by subst e; rw[Nat.beq_refl]at hb; cases hb
      simp only[Exit.inBlock,if_neg this]
      exact⟨l',hl',hq⟩
  | _=>exact⟨l',hl',hq⟩
theorem XI_keep {c:Code}(ks:List Nat)(l':Slots)(he:keep l ks=l')(h:XI r P N c qs l' w):XI r P N c qs l w:=fun n a ha=>h n a (by rw[←he]; exact ha.keep ks)
theorem XI_skip (h:qs .normal l w):XI r P N .skip qs l w:=fun _ _ ha=>wpIn_skip ⟨l,ha,h⟩
theorem XI_ret (h:qs .ret l w):XI r P N .ret qs l w:=fun _ _ ha=>wpIn_ret ⟨l,ha,h⟩
theorem XI_cond {c:Operand}{x y:Code}(b:Bool)(hc:ev l c=some (.bool b))(h:XI r P N (bif b then x else y) qs l w):XI r P N (.cond c x y) qs l w:=by
  intro n a ha
  refine wpIn_cond (ev_ok ha hc) ?_
  have:=h n a ha
  cases b<;>exact this
theorem XLI_yield {m lp:Nat}{o:Oper}{rest:List Oper}{t:Tmp}{aq:Array Operand}{ts:Array TypeId}(ho:o.op=.call { callee:=.value (.tmp t),args:=aq,argTypes:=ts })(hg:gd ops l o=some true)(hd:okD N o.dst=true)(hf:look l t=some (.func (.yield lp) #[] #[]))
    (vs:List Value) (hv:evs l aq.toList=some vs) {R:Ending→World→Prop} (hy:YieldAt Fence.wide m P lp vs.toArray w R)
    (hn:∀ e w',R e w'→∃ v,e=.returned v∧XLI none P N ops rest qs (putS l o.dst v) w'):XLI none P N ops (o::rest) qs l w:=by
  intro n a ha
  obtain⟨fn,tmps,asg,body,hrun,hround⟩:=hy
  refine wpListIn_step fun K hK=>?_
  rw[if_pos (gd_ok ha hg)]
  have hargs:aq.map a.eval=vs.toArray:=by
    apply Array.toList_inj.1
    simpa using evs_ok ha _ _ hv
  have hfv:a.eval (.tmp t)=.func (.yield lp) #[] #[]:=ev_ok ha (x:=.tmp t) hf
  refine⟨fun _ _=>trivial,?_⟩
  have hr:(o.semAt (wf none).round a.eval).run P w=.ok (.round lp fn tmps asg body) w:=by
    rw[show (wf none).round=none from rfl,Oper.semAt_none]
    unfold execOp
    simp only[ho,resolve,hfv,Deferred.ofValue,Sem.run_bind,Sem.run_pure,Result.andThen_ok,invoke,hargs]
    simpa using hrun
  rw[hr]
  refine⟨fun e=>(by cases e),?_⟩
  refine RoundIn.mono (R:=R) ⟨hround.1,fun c cs _=>hround.2 c cs (room_wide _)⟩ fun e w' hR=>?_
  obtain⟨v,rfl,h2⟩:=hn e w' hR
  exact hK _ _ (h2 n _ (ha.putS hd v))
end

theorem any_lift {r:Option Nat}{n:Nat}{P:Program}{ops:Array Oper}{Q:Exit→Act→World→Prop}(hp:(ops.toList.all plainOp)=true)(hQ:¬LetsOut Q):∀ (fuel:Nat) (listed:Array Bool) (a:Act) (w:World),wpAny P .any ops Q fuel listed a w→wpAnyIn (wf r) n P .any ops Q fuel listed a w
  | 0,_,_,_,h=>h
  | fuel+1,listed,a,w,h=>by
    refine⟨h.1,fun i hi=>?_⟩
    have h1:=h.2 i hi
    unfold wpOp at h1
    unfold wpOpIn
    cases ho:ops[i]? with
    | none=>rw[ho]at h1; exact any_lift hp hQ fuel _ _ _ h1
    | some o=>
      rw[ho]at h1
      have hpo:plainOp o=true:=List.all_eq_true.1 hp o (by
        rw[Array.getElem?_eq_some_iff]at ho
        obtain⟨hlt,rfl⟩:=ho
        exact Array.getElem_mem_toList hlt)
      simp only at h1 ⊢
      split
      · rename_i hw
        rw[if_pos hw]at h1
        rcases h1 with h1|⟨_,h1⟩
        · exact op_lift hpo (fun a w hk=>any_lift hp hQ fuel _ a w hk) (fun _ _ _ h=>h) hQ h1
        · exact absurd h1 hQ
      · rename_i hw
        rw[if_neg hw]at h1
        exact⟨fun _ _=>trivial,any_lift hp hQ fuel _ _ _ h1⟩
section
variable {r : Option Nat} {P : Program} {N : Nat} {ops : Array Oper} {qs : QS} {l : Slots} {w : World} {S : World → Prop}
open Go.Proofs.YtlnnjfdonilgmaaGreatDoorW.PrintLast
theorem XI_any {id:Nat}(hp:(ops.toList.all plainOp)=true)(hq:Tight qs)(ds:List Nat)(fuel:Nat)(listed:Array Bool)(hm:P.follows .mixedOrders=true)(hs:ops.size=fuel)(hl:Array.replicate fuel false=listed)
    (h:∀ wd,Below w.heap.size w wd→wd.heap=w.heap→XA P N ops wd ds fuel listed qs l wd):XI r P N (.region id ops true) qs l w:=by
  subst hs
  subst hl
  intro n a ha
  exact wpIn_region_any hm (any_lift hp (tight_lift hq) _ _ _ _ (wpAny_of_last _ _ _ _ (h _ (below_drew w) rfl a ha)))
end

def noD :Slots→Slots
  | []=>[]
  | (k,v)::r=>bif Nat.beq k dk then noD r else (k,v)::noD r
theorem lookS_noD_dk :∀ l:Slots,lookS (noD l) dk=none
  | []=>rfl
  | (k,v)::r=>by
    simp only[noD]
    cases hb:Nat.beq k dk with
    | true=>exact lookS_noD_dk r
    | false=>
      have hk:dk≠k:=fun e=>by rw[←e,Nat.beq_refl]at hb; cases hb
      simp only[cond_false]
      rw[lookS_ne hk]
      exact lookS_noD_dk r
theorem lookS_noD :∀ (l:Slots) (i:Nat),i≠dk→lookS (noD l) i=lookS l i
  | [],_,_=>rfl
  | (k,v)::r,i,hi=>by
    simp only[noD]
    cases hb:Nat.beq k dk with
    | true=>
      have hk:k=dk:=Nat.eq_of_beq_eq_true hb
      simp only[cond_true]
      rw[lookS_ne (fun e=>hi (e.trans hk))]
      exact lookS_noD r i hi
    | false=>
      simp only[cond_false]
      by_cases he:i=k
      · subst he; rw[lookS_eq,lookS_eq]
      · rw[lookS_ne he,lookS_ne he]; exact lookS_noD r i hi
theorem Fr.noD {N:Nat}{l:Slots}{a:Act}(h:Fr N l a):Fr N (noD l) { a with defers:=[] }:=
  ⟨h.size,h.lt,by show []=dsOf _; unfold dsOf; rw[lookS_noD_dk],fun i v hv=>by
    obtain⟨hi,hv⟩:=look_some hv
    rw[lookS_noD l i hi]at hv
    exact h.at_ i v (by rw[look_of hi]; exact hv)⟩
def bindS :List (Tmp×Value)→Slots→Slots
  | [],l=>l
  | (p,v)::r,l=>bindS r ((p,v)::l)
theorem fr_bind {N:Nat}:∀ (pv:List (Tmp×Value)) (l:Slots) (a:Act),Fr N l a→(pv.all fun p=>Nat.blt p.1 N)=true→Fr N (bindS pv l) { a with tmps:=pv.foldl (fun t p=>t.setIfInBounds p.1 p.2) a.tmps }
  | [],l,a,h,_=>h
  | (p,v)::r,l,a,h,hp=>by
    simp only[List.all_cons,Bool.and_eq_true]at hp
    have h1:=h.putS (d:=some p) (by simpa [okD] using hp.1) v
    exact fr_bind r _ _ h1 hp.2
def consD (D:Nat):Option Value→Value
  | some (.agg xs)=>.agg (Value.int .i64 (D:Int)::xs.toList).toArray
  | _=>.agg #[.int .i64 (D:Int)]
def addD (D:Nat)(l:Slots):Slots:=(dk,consD D (lookS l dk))::l
theorem dsOf_addD (D:Nat)(l:Slots):dsOf (addD D l)=mkD D::dsOf l:=by
  unfold dsOf addD
  rw[lookS_eq]
  cases h:lookS l dk with
  | none=>simp[consD,decD,decV]
  | some v=>
    cases v<;>simp[consD,decD,decV]
theorem Fr.addD {N:Nat}{l:Slots}{a:Act}(h:Fr N l a)(D:Nat):Fr N (addD D l) { a with defers:={ target:=.collected D,args:=#[] }::a.defers }:=
  ⟨h.size,h.lt,by rw[dsOf_addD]; show mkD D::a.defers=_; rw[h.defers],fun i v hv=>by
    obtain⟨hi,hv⟩:=look_some hv
    unfold RX.addD at hv
    rw[lookS_ne hi]at hv
    exact h.at_ i v (by rw[look_of hi]; exact hv)⟩
def retM (P:Program)(fn:Func)(N:Nat)(R:Ending→World→Prop):QS
  | .normal,l,w|.ret,l,w=>∀ a,Fr N l a→LeavesInM Fence.wide 0 P fn a.tmps R a.defers .returning w
  | _,_,_=>False
theorem enterM {P:Program}{f:FuncId}{fn:Func}{c:Code}{args:Array Value}{w:World}{R:Ending→World→Prop}(hf:P.funcs[f]?=some fn)(hb:fn.body=some c)(N:Nat)(hN:fn.ntmps=N)(l0:Slots)(hl:zipA args.toList 0=l0)(hn:(Nat.ble args.size N&&Nat.ble N dk)=true)
    (h:∀ R_:Ending→World→Prop,(∀ e w',R e w'→R_ e w')→X P N c (retM P fn N R_) l0 w):Calls P f args w R:=by
  replace h:=h R (fun _ _ h=>h)
  subst hN
  simp only[Bool.and_eq_true]at hn
  obtain⟨hn,hlt⟩:=hn
  have hn:=Nat.le_of_ble_eq_true hn
  have hlt:=Nat.le_of_ble_eq_true hlt
  refine(callsIn_wide (n:=0)).1 (callsIn_of_wp_marks hf hb trivial (wpIn_mono (wpIn_wide.2 (h _ (fr0 hl hn hlt))) ?_))
  rintro e a' w' ⟨l',hl',hq⟩
  cases e with
  | normal=>exact hq a' hl'
  | ret=>exact hq a' hl'
  | _=>exact hq.elim
structure Off (ds:List Nat) (w w':World):Prop where
  os:w'.os=w.os
  tape:w'.tape=w.tape
  output:w'.output=w.output
  size:w'.heap.size=w.heap.size
  block:∀ k,k∉ds→w'.heap[k]?=w.heap[k]?
theorem Off.blk {ds:List Nat}{w w':World}(h:Off ds w w')(hD:∀ D∈ds,w.heap[D]?=some (.deferred (some []))){g t:Nat}{cs:Array Value}(hb:RX.Blk w g t cs):RX.Blk w' g t cs:=
  (h.block g fun hm=>by
    have e1:=(hD g hm).symm.trans hb
    cases e1).trans hb
theorem leavesM {P:Program}{fn:Func}{tmps:Array Value}{R:Ending→World→Prop}{v:Value}:∀ (ds:List Nat) (w:World),ds.Nodup→(∀ D∈ds,w.heap[D]?=some (.deferred (some [])))→(∀ w',Off ds w w'→(results fn tmps).run P w'=.ok v w'∧R (.returned v) w')→
    LeavesInM Fence.wide 0 P fn tmps R (ds.map mkD) .returning w
  | [],w,_,_,h=>⟨v,h w ⟨rfl,rfl,rfl,rfl,fun _ _=>rfl⟩⟩
  | D::ds,w,hn,hD,h=>by
    obtain⟨h1,h2⟩:=List.nodup_cons.1 hn
    have hd:=hD D List.mem_cons_self
    refine⟨by simp,.inl ⟨D,_,rfl,run_takeDeferred hd,leavesM (v:=v) ds _ h2 (fun D' hm=>?_) fun w' ho=>?_⟩⟩
    · have hne:D'≠D:=fun e=>h1 (e▸hm)
      have:=hD D' (List.mem_cons_of_mem _ hm)
      rw[←this]
      exact(grownBy_putObj' w D (.deferred none)).block D' (Array.getElem?_eq_some_iff.1 this).1 (fun e=>hne (by injection e))
    · have hg:=grownBy_putObj' w D (.deferred none)
      refine h w' ⟨ho.os.trans hg.os,ho.tape.trans hg.tape,ho.output.trans hg.output,?_,fun k hk=>?_⟩
      · rw[ho.size]; simp[World.putObj]
      · rw[ho.block k (fun hm=>hk (List.mem_cons_of_mem _ hm))]
        have hne:k≠D:=fun e=>hk (e▸List.mem_cons_self)
        simp only[World.putObj]
        rw[Array.getElem?_setIfInBounds_ne (fun e=>hne e.symm)]
theorem retM_cell {P:Program}{fn:Func}{N:Nat}{R:Ending→World→Prop}{l:Slots}{w:World}{ds:List Nat}(hl:dsOf l=ds.map mkD)(hn:ds.Nodup)(hD:∀ D∈ds,w.heap[D]?=some (.deferred (some []))){c:Tmp}{t:TypeId}{g:Nat}{bt:TypeId}{cs:Array Value}{p:Addr}{v:Value}(hr:fn.results=#[.cell c t])(hc:look l c=some (.pointer (some p)))
    (hb:RX.Blk w g bt cs) (hv:∀ w',RX.Blk w' g bt cs→(loadVar t p).run P w'=.ok v w') (hR:∀ w',Off ds w w'→R (.returned v) w'):retM P fn N R .ret l w:=by
  intro a ha
  rw[ha.defers,hl]
  refine leavesM ds w hn hD fun w' ho=>⟨?_,hR w' ho⟩
  exact cell_run hr hc (hv w' (ho.blk hD hb)) a ha
theorem ownFrom_blk {β:Type}{B:Nat}(g:β→Nat)(t:Nat)(cs:β→Array Value):OwnFrom B (fun(s:β) W=>RX.Blk W (g s) t (cs s)):=fun s W W' row hs hg hr=>
  (hg.block _ (Blk.lt hs) fun e=>by
    obtain⟨_,o,ho,hc⟩:=hr _ e.symm
    rw[show W.heap[g s]?=some (.cells (cs s) t (0,0))from hs]at ho
    injection ho with ho
    subst ho
    cases hc).trans hs
theorem ownFrom_below' {β:Type}{B:Nat}(w0:World)(hb:w0.heap.size≤B):OwnFrom B (fun(_:β) W=>Below w0.heap.size w0 W):=fun s W W' row hs hg hr=>
  hs.trans ⟨hg.os,hg.tape,hg.output,hg.size,fun k hk=>hg.block k (Nat.lt_of_lt_of_le hk hs.size) fun e=>by have:=(hr _ e.symm).1; omega⟩
theorem ownFrom_pure {β:Type}{B:Nat}(p:β→Prop):OwnFrom B (fun(s:β) (_:World)=>p s):=fun _ _ _ _ hs _ _=>hs
def Defs (ds:List Nat)(w:World):Prop:=∀ D∈ds,w.heap[D]?=some (.deferred (some []))
theorem Defs.store {ds:List Nat}{w w1:World}{g t:Nat}{cs:Array Value}(hb:RX.Blk w g t cs)(hg:w.grownBy w1 (some g))(h:Defs ds w):Defs ds w1:=fun D hm=>
  (hg.block D (Array.getElem?_eq_some_iff.1 (h D hm)).1 fun e=>by
    injection e with e
    subst e
    have e1:=(h D hm).symm.trans hb
    cases e1).trans (h D hm)
theorem Defs.cons {ds:List Nat}{w:World}{D:Nat}(h0:w.heap[D]?=some (.deferred (some [])))(h:Defs ds w):Defs (D::ds) w:=fun x hm=>by
  rcases List.mem_cons.1 hm with rfl|hm
  · exact h0
  · exact h x hm
theorem keeps_below {B:Nat}{W W':World}(h:Below W.heap.size W W'):KeepsFrom B W W':=⟨h.size,fun k o _ hk _=>(h.block k (Array.getElem?_eq_some_iff.1 hk).1).trans hk⟩
theorem keeps_store {B g t:Nat}{W W':World}{cs:Array Value}(hb:RX.Blk W g t cs)(hg:W.grownBy W' (some g)):KeepsFrom B W W':=⟨hg.size,fun k o _ hk hc=>
  (hg.block k (Array.getElem?_eq_some_iff.1 hk).1 fun e=>by
    injection e with e
    subst e
    rw[show W.heap[k]?=some (.cells cs t (0,0))from hb]at hk
    injection hk with hk
    subst hk
    cases hc).trans hk⟩
end Go.Proofs.YtlnnjfdonilgmaaGreatDoor.RX
