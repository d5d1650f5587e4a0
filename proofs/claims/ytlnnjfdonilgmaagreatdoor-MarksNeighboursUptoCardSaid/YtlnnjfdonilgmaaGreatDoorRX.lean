/- How a function's text is followed: frames as short lists of slots. No condition. -/
import Derived.Tactics
import Derived.RegionTactic
import Derived.Deep.Quiet
import Derived.StillTail
import Derived.WalkKit
import Derived.Deep.LoopGhost
import Derived.KernelRfl
import Derived.IntWalk
import Derived.Maps.AppendAt
import Derived.Laws.OwnMore
import Derived.Deep.OwnRows
import Derived.Below
set_option linter.unusedVariables false
set_option linter.unusedSimpArgs false
namespace Go.Proofs.YtlnnjfdonilgmaaGreatDoor.RX
open Go Go.RowKit

abbrev Slots :=List (Nat×Value)

def dk :Nat:=1000000
def mkD (D:Nat):Deferred:={ target:=.collected D,args:=#[] }
def encD (ds:List Nat):Value:=.agg (ds.map fun(D:Nat)=>Value.int .i64 (D:Int)).toArray
def decV :Value→Deferred
  | .int _ n=>mkD n.toNat
  | _=>mkD 0
def decD :Value→List Deferred
  | .agg xs=>xs.toList.map decV
  | _=>[]
theorem decD_enc (ds:List Nat):decD (encD ds)=ds.map mkD:=by
  simp only[decD,encD,List.map_map]
  exact List.map_congr_left fun D _=>by simp[decV]
def lookS (l:Slots)(i:Nat):Option Value:=match l with
  | []=>none
  | (j,v)::r=>bif Nat.beq i j then some v else lookS r i
def look (l:Slots)(i:Nat):Option Value:=bif Nat.beq i dk then none else lookS l i
def dsOf (l:Slots):List Deferred:=match lookS l dk with
  | some v=>decD v
  | none=>[]

structure Fr (N:Nat) (l:Slots) (a:Act):Prop where
  size:a.tmps.size=N
  lt:N≤dk
  defers:a.defers=dsOf l
  at_:∀ i v,look l i=some v→a.tmps[i]?=some v

theorem look_some {l:Slots}{i:Nat}{v:Value}(h:look l i=some v):i≠dk∧lookS l i=some v:=by
  unfold look at h
  cases hb:Nat.beq i dk with
  | true=>rw[hb]at h; cases h
  | false=>rw[hb]at h; exact⟨fun e=>(by subst e; rw[Nat.beq_refl]at hb; cases hb),h⟩
theorem look_of {l:Slots}{i:Nat}(h:i≠dk):look l i=lookS l i:=by
  unfold look
  cases hb:Nat.beq i dk with
  | true=>exact absurd (Nat.eq_of_beq_eq_true hb) h
  | false=>rfl
theorem lookS_ne {l:Slots}{i j:Nat}{v:Value}(h:i≠j):lookS ((j,v)::l) i=lookS l i:=by
  simp only[lookS]
  cases hb:Nat.beq i j with
  | true=>exact absurd (Nat.eq_of_beq_eq_true hb) h
  | false=>rfl
theorem lookS_eq {l:Slots}{i:Nat}{v:Value}:lookS ((i,v)::l) i=some v:=by simp[lookS]

def ev (l:Slots):Operand→Option Value
  | .tmp t=>look l t
  | .const v=>some v
  | .global g=>some (.pointer (some ⟨g,0,none⟩))
  | .func f=>some (.func (.func f) #[] #[])

def evD (l:Slots)(x:Operand):Value:=(ev l x).getD undef

theorem ev_ok {N:Nat}{l:Slots}{a:Act}(h:Fr N l a){x:Operand}{v:Value}(hv:ev l x=some v):a.eval x=v:=by
  cases x with
  | tmp t=>
    have:=h.at_ t v hv
    simp[Act.eval,Array.getD_eq_getD_getElem?,this]
  | const u=>simpa [ev,Act.eval] using hv
  | global g=>simpa [ev,Act.eval] using hv
  | func f=>simpa [ev,Act.eval] using hv

theorem evD_ok {N:Nat}{l:Slots}{a:Act}(h:Fr N l a){x:Operand}(hv:(ev l x).isSome=true):a.eval x=evD l x:=by
  obtain⟨v,hv⟩:=Option.isSome_iff_exists.1 hv
  rw[ev_ok h hv,evD,hv]; rfl

def putS (l:Slots):Option Tmp→Value→Slots
  | some d,v=>(d,v)::l
  | none,_=>l

def okD (N:Nat):Option Tmp→Bool
  | some d=>Nat.blt d N
  | none=>true

theorem Fr.putS {N:Nat}{l:Slots}{a:Act}(h:Fr N l a){d:Option Tmp}(hd:okD N d=true)(v:Value):Fr N (putS l d v) (a.put d v):=by
  cases d with
  | none=>exact h
  | some d=>
    have hd':d<N:=by simpa [okD,Nat.blt_eq] using hd
    have hlt:=h.lt
    refine⟨by simpa [Act.put] using h.size,h.lt,?_,fun i u hu=>?_⟩
    · show a.defers=dsOf ((d,v)::l)
      unfold dsOf
      have hne:dk≠d:=fun e=>by rw[e]at hlt; exact Nat.lt_irrefl _ (Nat.lt_of_lt_of_le hd' hlt)
      rw[lookS_ne hne]
      exact h.defers
    · obtain⟨hi,hu⟩:=look_some hu
      simp only[RX.putS]at hu
      simp only[Act.put]
      by_cases hid:i=d
      · subst hid
        rw[lookS_eq]at hu
        simp only[Option.some.injEq]at hu
        subst hu
        rw[Array.getElem?_setIfInBounds_self_of_lt (by rw[h.size]; exact hd')]
      · rw[lookS_ne hid]at hu
        rw[Array.getElem?_setIfInBounds_ne (fun e=>hid e.symm)]
        exact h.at_ i u (by rw[look_of hi]; exact hu)

def keep (l:Slots):List Nat→Slots
  | []=>match lookS l dk with
    | some v=>[(dk,v)]
    | none=>[]
  | k::ks=>bif Nat.beq k dk then keep l ks else match lookS l k with
    | some v=>(k,v)::keep l ks
    | none=>keep l ks

theorem lookS_keep_dk (l:Slots):∀ ks:List Nat,lookS (keep l ks) dk=lookS l dk
  | []=>by
    cases h:lookS l dk with
    | some v=>simp only[keep,h]; exact lookS_eq
    | none=>simp only[keep,h]; rfl
  | k::ks=>by
    simp only[keep]
    cases hb:Nat.beq k dk with
    | true=>exact lookS_keep_dk l ks
    | false=>
      have hk:dk≠k:=fun e=>by rw[←e,Nat.beq_refl]at hb; cases hb
      simp only[cond_false]
      split
      · rw[lookS_ne hk]; exact lookS_keep_dk l ks
      · exact lookS_keep_dk l ks
theorem dsOf_keep (l:Slots)(ks:List Nat):dsOf (keep l ks)=dsOf l:=by unfold dsOf; rw[lookS_keep_dk]
theorem lookS_keep (l:Slots):∀ (ks:List Nat) (i:Nat) (v:Value),lookS (keep l ks) i=some v→lookS l i=some v
  | [],i,v,h=>by
    simp only[keep]at h
    split at h
    · rename_i u hu
      by_cases hi:i=dk
      · subst hi; rw[lookS_eq]at h; rw[hu]; exact h
      · rw[lookS_ne hi]at h; simp[lookS]at h
    · simp[lookS]at h
  | k::ks,i,v,h=>by
    simp only[keep]at h
    cases hb:Nat.beq k dk with
    | true=>rw[hb]at h; exact lookS_keep l ks i v h
    | false=>
      rw[hb]at h
      simp only[cond_false]at h
      split at h
      · rename_i u hu
        by_cases hi:i=k
        · subst hi; rw[lookS_eq]at h; rw[hu]; exact h
        · rw[lookS_ne hi]at h; exact lookS_keep l ks i v h
      · exact lookS_keep l ks i v h
theorem look_keep (l:Slots)(ks:List Nat)(i:Nat)(v:Value)(h:look (keep l ks) i=some v):look l i=some v:=by
  obtain⟨hi,h⟩:=look_some h
  rw[look_of hi]
  exact lookS_keep l ks i v h

theorem Fr.keep {N:Nat}{l:Slots}{a:Act}(h:Fr N l a)(ks:List Nat):Fr N (keep l ks) a:=⟨h.size,h.lt,by rw[dsOf_keep]; exact h.defers,fun i v hv=>h.at_ i v (look_keep l ks i v hv)⟩

abbrev QS :=Exit→Slots→World→Prop
def lift (N:Nat)(qs:QS):Exit→Act→World→Prop:=fun e a w=>∃ l,Fr N l a∧qs e l w

def X (P:Program)(N:Nat)(c:Code)(qs:QS)(l:Slots)(w:World):Prop:=∀ a,Fr N l a→c.wp P (lift N qs) a w
def XL (P:Program)(N:Nat)(ops:Array Oper)(os:List Oper)(qs:QS)(l:Slots)(w:World):Prop:=∀ a,Fr N l a→wpList P ops (lift N qs) os a w

def gd (ops:Array Oper) (l:Slots) (o:Oper):Option Bool:=
  match o.guard with
  | none=>some true
  | some (j,want)=>
    match ops[j]? with
    | some g=>match g.dst with
      | some d=>match look l d with
        | some (.bool b)=>some (b==want)
        | some (.tuple _)=>some false
        | _=>none
      | none=>none
    | none=>none

theorem gd_ok {N:Nat}{l:Slots}{a:Act}(h:Fr N l a){ops:Array Oper}{o:Oper}{b:Bool}(hg:gd ops l o=some b):Region.wanted o (yielded ops a.tmps)=b:=by
  unfold gd at hg
  unfold Region.wanted
  split at hg
  · rename_i e; rw[e]; simpa using hg
  · rename_i j want e
    rw[e]
    simp only
    split at hg
    · rename_i g hj
      split at hg
      · rename_i d hd
        split at hg
        · rename_i b' hb
          have h1:=h.at_ d _ hb
          have:yielded ops a.tmps j=some b':=by simp[yielded,hj,hd,h1]
          rw[this]
          simpa using hg
        · rename_i t' hb
          have h1:=h.at_ d _ hb
          have:yielded ops a.tmps j=none:=by simp[yielded,hj,hd,h1]
          rw[this]
          simp only[Option.some.injEq]at hg
          subst hg
          rfl
        · cases hg
      · cases hg
    · cases hg

def known (l:Slots)(o:Oper):Bool:=o.op.operands.all fun x=>(ev l x).isSome
def notSelect :Op→Bool
  | .select .. =>false
  | _=>true

theorem run_known {N:Nat}{l:Slots}{a:Act}(h:Fr N l a)(P:Program)(w:World){o:Oper}(hk:known l o=true)(hs:notSelect o.op=true):(execOp a.eval o).run P w=(execOp (evD l) o).run P w:=by
  rw[execOp_congr o (fun cs b e=>by rw[e]at hs; cases hs) (fun x hx=>evD_ok h (by
    unfold known at hk
    rw[Array.all_eq_true_iff_forall_mem]at hk
    exact hk x hx))]

inductive Ov where
  | eq (v:Value)
  | load (v:Value)
  | idx (ad:Addr)
  | as (v:Value)

def RunsAs (P:Program)(l:Slots)(op:Op)(t:TypeId)(v:Value)(w:World):Prop:=∀ o:Oper,o.op=op→o.type=t→(execOp (evD l) o).run P w=.ok (.value v) w
def tmpsOf (op:Op):List Nat:=op.operands.toList.filterMap fun|.tmp t=>some t| _=>none

theorem look_keep_mem (l:Slots)(i:Nat):∀ (ks:List Nat),i∈ks→look (keep l ks) i=look l i
  | k::ks,h=>by
    by_cases hi:i=dk
    · subst hi; simp[look,Nat.beq_refl]
    · have ih:=look_keep_mem l i ks
      rw[look_of hi,look_of hi]at*
      simp only[keep]
      cases hb:Nat.beq k dk with
      | true=>
        have hk:k=dk:=Nat.eq_of_beq_eq_true hb
        rcases List.mem_cons.1 h with e|hm
        · exact absurd (e.trans hk) hi
        · exact ih hm
      | false=>
        simp only[cond_false]
        cases hl:lookS l k with
        | some v=>
          by_cases he:i=k
          · subst he; rw[lookS_eq,hl]
          · rw[lookS_ne he]
            exact ih ((List.mem_cons.1 h).resolve_left he)
        | none=>
          rcases List.mem_cons.1 h with e|hm
          · subst e
            cases hk:lookS (keep l ks) i with
            | none=>exact hl.symm▸rfl
            | some v=>exact absurd (lookS_keep l ks i v hk) (by rw[hl]; simp)
          · exact ih hm

def LoadsAs (P:Program)(t:TypeId)(p:Addr)(v:Value)(w:World):Prop:=(loadVar t p).run P w=.ok v w

def ovOf (ov:List (Nat×Ov)):Option Tmp→Option Ov
  | none=>none
  | some d=>match ov with
    | []=>none
    | (j,v)::r=>bif Nat.beq d j then some v else ovOf r (some d)

def allP :List Prop→Prop
  | []=>True
  | p::r=>p∧allP r

def elemOf (P:Program)(t:TypeId):Option TypeId:=match P.underlying t with
  | some (.slice e)=>some e
  | _=>none
def sizeP (P:Program)(t:TypeId):Option Nat:=(P.info? t).map (·.size)

def gx1 (P:Program)(l:Slots)(w:World)(o:Oper):Option Ov→Option (Value×World×List Prop)
  | some (.load v)=>match o.op with
    | .load t x=>match ev l x with
      | some (.pointer (some p))=>some (v,w,[LoadsAs P t p v w])
      | _=>none
    | _=>none
  | some (.idx ad)=>match o.op with
    | .indexAddr t x i=>match elemOf P t with
      | some e=>match sizeP P e with
        | some sz=>match ev l x,ev l i with
          | some (.slice A n _),some (.int _ z)=>some (.pointer (some (ad.add (z.toNat*sz))),w,[A=some ad,0≤z,z<(n:Int)])
          | _,_=>none
        | none=>none
      | none=>none
    | _=>none
  | some (.as v)=>bif known l o&&notSelect o.op then some (v,w,[RunsAs P (keep l (tmpsOf o.op)) o.op o.type v w])else none
  | ov=>
    bif known l o&&notSelect o.op then
      match (execOp (evD l) o).run P w with
      | .ok (.value v) w'=>match ov with
        | some (.eq v')=>some (v',w',[v=v'])
        | _=>some (v,w',[])
      | .ok .skip w'=>match o.dst with
        | none=>some (undef,w',[])
        | some _=>none
      | _=>none
    else none

def gx (P:Program) (N:Nat) (ops:Array Oper) (ov:List (Nat×Ov)):List Oper→Slots→World→Option (Slots×World×List Prop)
  | [],l,w=>some (l,w,[])
  | o::r,l,w=>
    bif okD N o.dst then
    match gd ops l o with
    | some true=>match gx1 P l w o (ovOf ov o.dst)with
      | some (v,w',cs)=>match gx P N ops ov r (putS l o.dst v) w' with
        | some (l2,w2,cs2)=>some (l2,w2,cs++cs2)
        | none=>none
      | none=>none
    | some false=>gx P N ops ov r (putS l o.dst undef) w
    | none=>none
    else none

theorem allP_append {a b:List Prop}(h:allP (a++b)):allP a∧allP b:=by
  induction a with
  | nil=>exact⟨trivial,h⟩
  | cons p r ih=>exact⟨⟨h.1,(ih h.2).1⟩,(ih h.2).2⟩

theorem loads_run {P:Program}{t:TypeId}{x:Operand}{a:Act}{p:Addr}{v:Value}{w:World}{o:Oper}(ho:o.op=.load t x)(hx:a.eval x=.pointer (some p))(h:LoadsAs P t p v w):
    (execOp a.eval o).run P w=.ok (.value v) w:=by
  unfold LoadsAs at h
  unfold execOp
  simp only[ho,hx,Instr.loadAt,Instr.sureAddr,Sem.run_bind,Sem.run_pure,Result.andThen_ok,h]

theorem idx_run {P:Program}{t e:TypeId}{x i:Operand}{a:Act}{A:Option Addr}{ad:Addr}{n c sz:Nat}{k:IntKind}{z:Int}{w:World}{o:Oper}(ho:o.op=.indexAddr t x i)
    (he:elemOf P t=some e) (hs:sizeP P e=some sz) (hx:a.eval x=.slice A n c) (hi:a.eval i=.int k z) (hA:A=some ad) (h0:0≤z) (h1:z<(n:Int)):
    (execOp a.eval o).run P w=.ok (.value (.pointer (some (ad.add (z.toNat*sz))))) w:=by
  subst hA
  have hu:P.underlying t=some (.slice e):=by
    unfold elemOf at he
    split at he
    · rename_i e' h'; rw[h']; simpa using he
    · cases he
  obtain⟨inf,hinf,rfl⟩:=Option.map_eq_some_iff.1 hs
  unfold execOp
  simp[ho,hx,hi,Instr.indexAt,asIntOf,run_underlying hu,sizeOf,typeInfo,hinf,h0,h1]

theorem gx1_ok {P:Program}{N:Nat}{l:Slots}{w:World}{o:Oper}{ov:Option Ov}{v:Value}{w':World}{cs:List Prop}(h:gx1 P l w o ov=some (v,w',cs))(hc:allP cs){a:Act}(ha:Fr N l a):
    (execOp a.eval o).run P w=.ok (.value v) w'∨(execOp a.eval o).run P w=.ok .skip w'∧v=undef∧o.dst=none:=by
  have run:∀ (ov:Option Ov),(bif known l o&&notSelect o.op then
      match (execOp (evD l) o).run P w with
      | .ok (.value v) w'=>match ov with
        | some (.eq v')=>some (v',w',[v=v'])
        | _=>some (v,w',[])
      | .ok .skip w'=>match o.dst with
        | none=>some (undef,w',[])
        | some _=>none
      | _=>none
    else none)=some (v,w',cs)→(execOp a.eval o).run P w=.ok (.value v) w'∨(execOp a.eval o).run P w=.ok .skip w'∧v=undef∧o.dst=none:=by
    intro ov h
    cases hk:(known l o&&notSelect o.op)with
    | false=>rw[hk]at h; cases h
    | true=>
      rw[hk]at h
      simp only[cond_true]at h
      simp only[Bool.and_eq_true]at hk
      rw[run_known ha P w hk.1 hk.2]
      split at h
      · rename_i v1 w1 hr
        split at h
        · simp only[Option.some.injEq,Prod.mk.injEq]at h
          obtain⟨rfl,rfl,rfl⟩:=h
          rw[hr]
          exact .inl (by rw[hc.1])
        · simp only[Option.some.injEq,Prod.mk.injEq]at h
          obtain⟨rfl,rfl,rfl⟩:=h
          exact .inl hr
      · rename_i w1 hr
        split at h
        · rename_i hd
          simp only[Option.some.injEq,Prod.mk.injEq]at h
          obtain⟨rfl,rfl,rfl⟩:=h
          exact .inr ⟨hr,rfl,hd⟩
        · cases h
      · cases h
  cases ov with
  | none=>exact run none h
  | some ov=>
    cases ov with
    | eq v'=>exact run (some (.eq v')) h
    | as v'=>
      simp only[gx1]at h
      cases hk:(known l o&&notSelect o.op)with
      | false=>rw[hk]at h; cases h
      | true=>
        rw[hk]at h
        simp only[cond_true,Option.some.injEq,Prod.mk.injEq]at h
        obtain⟨rfl,rfl,rfl⟩:=h
        simp only[Bool.and_eq_true]at hk
        have hr:=hc.1 o rfl rfl
        refine .inl ?_
        rw[execOp_congr o (ρ':=evD (keep l (tmpsOf o.op))) (fun cs b e=>by have:=hk.2; rw[e]at this; cases this) (fun x hx=>?_),hr]
        have hs:(ev l x).isSome=true:=by
          have:=hk.1
          unfold known at this
          rw[Array.all_eq_true_iff_forall_mem]at this
          exact this x hx
        rw[evD_ok ha hs]
        unfold evD
        cases x with
        | tmp t=>
          simp only[ev]
          rw[look_keep_mem l t _ (by unfold tmpsOf; exact List.mem_filterMap.2 ⟨.tmp t,by simpa using hx,rfl⟩)]
        | const u=>rfl
        | global g=>rfl
        | func f=>rfl
    | load v'=>
      simp only[gx1]at h
      split at h
      · rename_i t x ho
        split at h
        · rename_i p hp
          simp only[Option.some.injEq,Prod.mk.injEq]at h
          obtain⟨rfl,rfl,rfl⟩:=h
          exact .inl (loads_run ho (ev_ok ha hp) hc.1)
        · cases h
      · cases h
    | idx ad=>
      simp only[gx1]at h
      split at h
      · rename_i t x i ho
        split at h
        · rename_i e he
          split at h
          · rename_i sz hs
            split at h
            · rename_i A n c k z hx hi
              simp only[Option.some.injEq,Prod.mk.injEq]at h
              obtain⟨rfl,rfl,rfl⟩:=h
              exact .inl (idx_run ho he hs (ev_ok ha hx) (ev_ok ha hi) hc.1 hc.2.1 hc.2.2.1)
            · cases h
          · cases h
        · cases h
      · cases h

theorem runs_bin {P:Program}{l:Slots}{op:BinOp}{t yt ty:TypeId}{x y:Operand}{a b v:Value}{w:World}(hx:ev l x=some a)(hy:ev l y=some b)(hg:(eqGuard op t x y a b).run P w=.ok () w)(h:(binOp op t a b).run P w=.ok v w):RunsAs P l (.binOp op t x y yt) ty v w:=by
  intro o ho _
  have h1:evD l x=a:=by rw[evD,hx]; rfl
  have h2:evD l y=b:=by rw[evD,hy]; rfl
  unfold execOp
  simp only[ho,h1,h2,hg,Sem.run_bind,Sem.run_pure,Result.andThen_ok,h]
theorem sliced_zero (A:Option Addr)(h c s:Nat):sliced A 0 h c s=.slice A h c:=by
  unfold sliced
  cases A with
  | none=>simp
  | some a=>
    have h0:a.add 0=a:=rfl
    simp[h0]
theorem runs_slice_h {P:Program}{l:Slots}{t e ty:TypeId}{sz:Nat}{x hi:Operand}{A:Option Addr}{n c:Nat}{k:IntKind}{h:Int}{w:World}(ht:elemOf P t=some e)(hs:sizeP P e=some sz)(hx:ev l x=some (.slice A n c))(hh:ev l hi=some (.int k h))(h0:0≤h)(h1:h≤c):
    RunsAs P l (.slice t x none (some hi) none) ty (.slice A h.toNat c) w:=by
  intro o ho _
  have e1:evD l x=.slice A n c:=by rw[evD,hx]; rfl
  have e2:evD l hi=.int k h:=by rw[evD,hh]; rfl
  have hu:P.underlying t=some (.slice e):=by
    unfold elemOf at ht
    split at ht
    · rename_i e' h'; rw[h']; simpa using ht
    · cases ht
  have hu2:P.underlying t=some (.slice (P.elem t)):=by rw[hu]; simp[Program.elem,hu]
  obtain⟨inf,hinf,hsz⟩:=Option.map_eq_some_iff.1 hs
  have he:P.elem t=e:=by simp[Program.elem,hu]
  unfold execOp
  simp only[ho,e1,e2,Option.map_none,Option.map_some,Sem.run_bind]
  rw[run_sliceAt_slice _ _ _ _ _ _ hu2,run_slice_h _ _ _ _ _ hu2 _ _ h0 h1]
  simp[he,sizeOf,typeInfo,hinf,sliced_zero]
theorem runs_slice_sl {P:Program}{l:Slots}{t ty:TypeId}{x lo:Operand}{s:ByteArray}{k:IntKind}{h:Int}{w:World}(ht:P.underlying t=some .string)(hx:ev l x=some (.string s))(hh:ev l lo=some (.int k h))(h0:0≤h)(h1:h≤s.size):
    RunsAs P l (.slice t x (some lo) none none) ty (.string (s.extract h.toNat s.size)) w:=by
  intro o ho _
  have e1:evD l x=.string s:=by rw[evD,hx]; rfl
  have e2:evD l lo=.int k h:=by rw[evD,hh]; rfl
  unfold execOp
  simp only[ho,e1,e2,Option.map_none,Option.map_some,Sem.run_bind]
  rw[run_sliceAt_string _ _ _ _ _ _ ht,run_slice_string_l _ _ _ ht _ _ h0 h1]
  simp
theorem runs_index {P:Program}{l:Slots}{t ty:TypeId}{x y:Operand}{a b v:Value}{w:World}(hx:ev l x=some a)(hy:ev l y=some b)(h:(Instr.index t a b).run P w=.ok v w):RunsAs P l (.index t x y) ty v w:=by
  intro o ho _
  have h1:evD l x=a:=by rw[evD,hx]; rfl
  have h2:evD l y=b:=by rw[evD,hy]; rfl
  unfold execOp
  simp only[ho,h1,h2,Sem.run_bind,Sem.run_pure,Result.andThen_ok,h]

theorem XL_gx {P:Program}{N:Nat}{ops:Array Oper}{ov:List (Nat×Ov)}{qs:QS}{rest:List Oper}:∀ (os:List Oper) (l:Slots) (w:World) (l':Slots) (w':World) (cs:List Prop),
    gx P N ops ov os l w=some (l',w',cs)→allP cs→XL P N ops rest qs l' w'→XL P N ops (os++rest) qs l w
  | [],l,w,l',w',cs,h,_,hn=>by
    simp only[gx,Option.some.injEq,Prod.mk.injEq]at h
    obtain⟨rfl,rfl,rfl⟩:=h
    exact hn
  | o::r,l,w,l',w',cs,h,hc,hn=>by
    intro a ha
    simp only[gx]at h
    cases hd:okD N o.dst with
    | false=>rw[hd]at h; cases h
    | true=>
      rw[hd]at h
      simp only[cond_true]at h
      show wpList P ops (lift N qs) (o::(r++rest)) a w
      split at h
      · rename_i hg
        split at h
        · rename_i v w1 cs1 h1
          split at h
          · rename_i l2 w2 cs2 h2
            simp only[Option.some.injEq,Prod.mk.injEq]at h
            obtain⟨rfl,rfl,rfl⟩:=h
            obtain⟨hc1,hc2⟩:=allP_append hc
            refine wpList_step fun K hK=>?_
            rw[if_pos (gd_ok ha hg)]
            unfold Oper.wp
            rcases gx1_ok h1 hc1 ha with hr|⟨hr,rfl,_⟩
            · rw[hr]
              exact hK _ _ (XL_gx r _ _ l2 w2 cs2 h2 hc2 hn _ (ha.putS hd v))
            · rw[hr]
              exact hK _ _ (XL_gx r _ _ l2 w2 cs2 h2 hc2 hn _ (ha.putS hd undef))
          · cases h
        · cases h
      · rename_i hg
        refine wpList_step fun K hK=>?_
        rw[if_neg (by rw[gd_ok ha hg]; decide)]
        exact hK _ _ (XL_gx r _ _ l' w' cs h hc hn _ (ha.putS hd undef))
      · cases h

theorem XL_run {P:Program}{N:Nat}{ops:Array Oper}{qs:QS}{os:List Oper}{l:Slots}{w:World}(k:Nat)(ov:List (Nat×Ov))(l':Slots)(w':World)(cs:List Prop)
    (h:(gx P N ops ov (os.take k) l w).map (fun r=>(keep r.1 (l'.map (·.1)),r.2))=some (l',w',cs)) (hc:allP cs) (hn:XL P N ops (os.drop k) qs l' w'):XL P N ops os qs l w:=by
  obtain⟨r,hr,he⟩:=Option.map_eq_some_iff.1 h
  obtain⟨l1,w1,cs1⟩:=r
  simp only[Prod.mk.injEq]at he
  obtain⟨he,rfl,rfl⟩:=he
  rw[←List.take_append_drop k os]
  refine XL_gx _ _ _ l1 w1 cs1 hr hc ?_
  intro a ha
  exact hn a (by rw[←he]; exact ha.keep _)

abbrev nv (n:Nat):Value:=.int .i64 (n:Int)
abbrev pw (g i:Nat):Value:=.pointer (some ⟨g,i,none⟩)
def memN (k:Nat):List Nat→Bool
  | []=>false
  | x::r=>bif Nat.beq k x then true else memN k r
def delS (ks:List Nat):Slots→Slots
  | []=>[]
  | (k,v)::r=>bif memN k ks then delS ks r else (k,v)::delS ks r
def nx (new l:Slots)(ds:List Nat):Slots:=new++delS (new.map (·.1)++ds) l
theorem xr {P:Program}{N:Nat}{ops:Array Oper}{qs:QS}{os:List Oper}{l:Slots}{w:World}(k:Nat)(ov:List (Nat×Ov))(new:Slots)(ds:List Nat)(cs:List Prop)(hc:allP cs)(hn:XL P N ops (os.drop k) qs (nx new l ds) w)
    (h:(gx P N ops ov (os.take k) l w).map (fun r=>(keep r.1 ((nx new l ds).map (·.1)),r.2))=some (nx new l ds,w,cs):=by kernel_rfl):XL P N ops os qs l w:=XL_run k ov _ w cs h hc hn
theorem xr0 {P:Program}{N:Nat}{ops:Array Oper}{qs:QS}{os:List Oper}{l:Slots}{w:World}(k:Nat)(new:Slots)(ds:List Nat)(hn:XL P N ops (os.drop k) qs (nx new l ds) w)
    (h:(gx P N ops [] (os.take k) l w).map (fun r=>(keep r.1 ((nx new l ds).map (·.1)),r.2))=some (nx new l ds,w,[]):=by kernel_rfl):XL P N ops os qs l w:=XL_run k [] _ w [] h trivial hn
theorem xe {P:Program}{N:Nat}{ops:Array Oper}{qs:QS}{os:List Oper}{l:Slots}{w:World}(k:Nat)(ov:List (Nat×Ov))(l':Slots)(cs:List Prop)(hc:allP cs)(hn:XL P N ops (os.drop k) qs l' w)
    (h:(gx P N ops ov (os.take k) l w).map (fun r=>(keep r.1 (l'.map (·.1)),r.2))=some (l',w,cs):=by kernel_rfl):XL P N ops os qs l w:=XL_run k ov _ w cs h hc hn
theorem xe0 {P:Program}{N:Nat}{ops:Array Oper}{qs:QS}{os:List Oper}{l:Slots}{w:World}(k:Nat)(l':Slots)(hn:XL P N ops (os.drop k) qs l' w)
    (h:(gx P N ops [] (os.take k) l w).map (fun r=>(keep r.1 (l'.map (·.1)),r.2))=some (l',w,[]):=by kernel_rfl):XL P N ops os qs l w:=XL_run k [] _ w [] h trivial hn
theorem xw {P:Program}{N:Nat}{ops:Array Oper}{qs:QS}{os:List Oper}{l:Slots}{w:World}(k:Nat)(ov:List (Nat×Ov))(new:Slots)(ds:List Nat)(w':World)(cs:List Prop)(hc:allP cs)(hn:XL P N ops (os.drop k) qs (nx new l ds) w')
    (h:(gx P N ops ov (os.take k) l w).map (fun r=>(keep r.1 ((nx new l ds).map (·.1)),r.2))=some (nx new l ds,w',cs):=by kernel_rfl):XL P N ops os qs l w:=XL_run k ov _ w' cs h hc hn
theorem xwe {P:Program}{N:Nat}{ops:Array Oper}{qs:QS}{os:List Oper}{l:Slots}{w:World}(k:Nat)(ov:List (Nat×Ov))(l':Slots)(w':World)(cs:List Prop)(hc:allP cs)(hn:XL P N ops (os.drop k) qs l' w')
    (h:(gx P N ops ov (os.take k) l w).map (fun r=>(keep r.1 (l'.map (·.1)),r.2))=some (l',w',cs):=by kernel_rfl):XL P N ops os qs l w:=XL_run k ov _ w' cs h hc hn
theorem XL_nil {P:Program}{N:Nat}{ops:Array Oper}{qs:QS}{l:Slots}{w:World}(h:qs .normal l w):XL P N ops [] qs l w:=fun a ha=>wpList_nil ⟨l,ha,h⟩

section
variable {P : Program} {N : Nat} {qs : QS} {l : Slots} {w : World}

def thenS (next:Slots→World→Prop)(qs:QS):QS
  | .normal,l,w=>next l w
  | e,l,w=>qs e l w
def blockS (id:Nat)(qs:QS):QS
  | .exit id',l,w=>bif Nat.beq id' id then qs .normal l w else qs (.exit id') l w
  | e,l,w=>qs e l w

theorem X_seq {x y:Code}(h:X P N x (thenS (X P N y qs) qs) l w):X P N (.seq x y) qs l w:=by
  intro a ha
  refine wp_seq (wp_mono (h a ha) ?_)
  rintro e a' w' ⟨l',hl',hq⟩
  cases e<;>first|exact hq a' hl'|exact⟨l',hl',hq⟩
theorem X_block {id:Nat}{c:Code}(h:X P N c (blockS id qs) l w):X P N (.block id c) qs l w:=by
  intro a ha
  refine wp_block (wp_mono (h a ha) ?_)
  rintro e a' w' ⟨l',hl',hq⟩
  cases e with
  | exit id'=>
    simp only[blockS]at hq
    cases hb:Nat.beq id' id with
    | true=>
      rw[hb]at hq
      have:id'=id:=Nat.eq_of_beq_eq_true hb
      simp only[Exit.inBlock,this,if_true]
      exact⟨l',hl',hq⟩
    | false=>
      rw[hb]at hq
      have:id'≠id:=fun e=>by subst e; rw[Nat.beq_refl]at hb; cases hb
      simp only[Exit.inBlock,this,if_false]
      exact⟨l',hl',hq⟩
  | normal=>exact⟨l',hl',hq⟩
  | goto _=>exact⟨l',hl',hq⟩
  | ret=>exact⟨l',hl',hq⟩
  | panic _=>exact⟨l',hl',hq⟩
  | outgrown=>exact⟨l',hl',hq⟩
theorem X_skip (h:qs .normal l w):X P N .skip qs l w:=fun _ ha=>wp_skip ⟨l,ha,h⟩
theorem X_exit {id:Nat}(h:qs (.exit id) l w):X P N (.exit id) qs l w:=fun _ ha=>wp_exit ⟨l,ha,h⟩
theorem X_ret (h:qs .ret l w):X P N .ret qs l w:=fun _ ha=>wp_ret ⟨l,ha,h⟩
theorem X_cond {c:Operand}{x y:Code}(b:Bool)(hc:ev l c=some (.bool b))(h:X P N (bif b then x else y) qs l w):X P N (.cond c x y) qs l w:=by
  intro a ha
  refine wp_cond (ev_ok ha hc) ?_
  have:=h a ha
  cases b<;>exact this
theorem X_region {id:Nat}{ops:Array Oper}(h:XL P N ops ops.toList qs l w):X P N (.region id ops false) qs l w:=fun a ha=>wp_region_list (h a ha)
theorem X_loop {c:Code}{ι:Type}(ls:ι→Slots)(R:ι→World→Prop)(μ:ι→Nat)(x0:ι)(h0:R x0 w)(hl:keep l ((ls x0).map (·.1))=ls x0)
    (round:∀ x w,R x w→X P N c (thenS (fun l' w'=>∃ x',keep l' ((ls x').map (·.1))=ls x'∧R x' w'∧μ x'<μ x) qs) (ls x) w):X P N (.loop c) qs l w:=by
  intro a ha
  refine wp_loop_ghost (fun n a w=>∃ x,μ x=n∧Fr N (ls x) a∧R x w) (μ x0) ⟨x0,rfl,by rw[←hl]; exact ha.keep _,h0⟩ ?_
  rintro n a w ⟨x,rfl,hx,hR⟩
  refine wp_mono (round x w hR a hx) ?_
  rintro e a' w' ⟨l',hl',hq⟩
  cases e<;>first|exact⟨l',hl',hq⟩|skip
  obtain⟨x',h1,h2,h3⟩:=hq
  exact⟨μ x',h3,x',rfl,by rw[←h1]; exact hl'.keep _,h2⟩
end

def zipA :List Value→Nat→Slots
  | [],_=>[]
  | v::r,i=>(i,v)::zipA r (i+1)

theorem look_zipA :∀ (vs:List Value) (k i:Nat) (v:Value),lookS (zipA vs k) i=some v→∃ j,i=k+j∧vs[j]?=some v
  | [],_,_,_,h=>by simp[zipA,lookS]at h
  | u::r,k,i,v,h=>by
    simp only[zipA,lookS]at h
    cases hb:Nat.beq i k with
    | true=>
      rw[hb]at h
      have:i=k:=Nat.eq_of_beq_eq_true hb
      exact⟨0,by omega,by simpa using h⟩
    | false=>
      rw[hb]at h
      obtain⟨j,h1,h2⟩:=look_zipA r (k+1) i v h
      exact⟨j+1,by omega,by simpa using h2⟩

def outs (l:Slots):List ResultVar→Option (List Value)
  | []=>some []
  | .tmp t::r=>match look l t,outs l r with
    | some v,some vs=>some (v::vs)
    | _,_=>none
  | .cell .. ::_=>none
def pack :List Value→Value
  | [v]=>v
  | vs=>.tuple vs.toArray

theorem outs_run {P:Program}{N:Nat}{l:Slots}{a:Act}(h:Fr N l a)(w:World)(f:ResultVar→Sem Value)(hf:∀ t,f (.tmp t)=pure (a.tmps.getD t undef)):∀ (rs:List ResultVar) (vs:List Value),outs l rs=some vs→
    (rs.mapM f).run P w=.ok vs w
  | [],vs,hv=>by
    simp only[outs,Option.some.injEq]at hv
    subst hv
    simp
  | .tmp t::r,vs,hv=>by
    simp only[outs]at hv
    split at hv
    · rename_i v vs' h1 h2
      simp only[Option.some.injEq]at hv
      subst hv
      have h3:a.tmps.getD t undef=v:=by
        have:=h.at_ t v h1
        simp[Array.getD_eq_getD_getElem?,this]
      simp only[List.mapM_cons,hf,Sem.run_bind,Sem.run_pure,Result.andThen_ok,h3]
      rw[outs_run h w f hf r vs' h2]
      simp
    · cases hv
  | .cell c t::r,vs,hv=>by simp[outs]at hv

theorem results_ok {P:Program}{N:Nat}{l:Slots}{a:Act}(h:Fr N l a)(w:World){fn:Func}{vs:List Value}(hv:outs l fn.results.toList=some vs):(results fn a.tmps).run P w=.ok (pack vs) w:=by
  unfold results
  rw[Array.mapM_eq_mapM_toList]
  simp only[Sem.run_bind,Sem.run_map,Sem.run_pure]
  rw[outs_run h w _ (fun _=>rfl) fn.results.toList vs hv]
  cases vs with
  | nil=>simp[pack]
  | cons v r=>cases r<;>simp[pack]

def retS (P:Program)(fn:Func)(N:Nat)(R:Ending→World→Prop):QS
  | .normal,l,w|.ret,l,w=>dsOf l=[]∧∃ v,(∀ a,Fr N l a→(results fn a.tmps).run P w=.ok v w)∧R (.returned v) w
  | _,_,_=>False

theorem fr0 {args:Array Value}{N:Nat}{l0:Slots}(hl:zipA args.toList 0=l0)(hn:args.size≤N)(hlt:N≤dk):Fr N l0 { tmps:=args++Array.replicate (N-args.size) undef,defers:=[] }:=by
  refine⟨by simp; omega,hlt,?_,?_⟩
  · show []=dsOf l0
    unfold dsOf
    cases h:lookS l0 dk with
    | none=>rfl
    | some v=>
      rw[←hl]at h
      obtain⟨j,hj,hv⟩:=look_zipA _ _ _ _ h
      have:=(List.getElem?_eq_some_iff.1 hv).1
      rw[Array.length_toList]at this
      omega
  · intro i v hv
    obtain⟨_,hv⟩:=look_some hv
    rw[←hl]at hv
    obtain⟨j,hj,hv⟩:=look_zipA _ _ _ _ hv
    obtain rfl:i=j:=by omega
    have hlt:=(List.getElem?_eq_some_iff.1 hv).1
    rw[Array.getElem?_append_left (by simpa using hlt)]
    simpa using hv
theorem enter {P:Program}{f:FuncId}{fn:Func}{c:Code}{args:Array Value}{w:World}{R:Ending→World→Prop}(hf:P.funcs[f]?=some fn)(hb:fn.body=some c)(N:Nat)(hN:fn.ntmps=N)(l0:Slots)(hl:zipA args.toList 0=l0)(hn:(Nat.ble args.size N&&Nat.ble N dk)=true)
    (h:∀ R_:Ending→World→Prop,(∀ e w',R e w'→R_ e w')→X P N c (retS P fn N R_) l0 w):Calls P f args w R:=by
  replace h:=h R (fun _ _ h=>h)
  subst hN
  simp only[Bool.and_eq_true]at hn
  obtain⟨hn,hlt⟩:=hn
  have hn:=Nat.le_of_ble_eq_true hn
  have hlt:=Nat.le_of_ble_eq_true hlt
  refine calls_of_wp hf hb (wp_mono (h _ (fr0 hl hn hlt)) ?_)
  rintro e a' w' ⟨l',hl',hq⟩
  cases e with
  | normal=>obtain⟨h0,v,h1,h2⟩:=hq; exact⟨hl'.defers.trans h0,v,h1 a' hl',h2⟩
  | ret=>obtain⟨h0,v,h1,h2⟩:=hq; exact⟨hl'.defers.trans h0,v,h1 a' hl',h2⟩
  | panic ch=>exact hq.elim
  | outgrown=>exact hq.elim
  | exit _=>exact hq.elim
  | goto _=>exact hq.elim

theorem ret_ok {P:Program}{fn:Func}{N:Nat}{R:Ending→World→Prop}{l:Slots}{w:World}(vs:List Value)(hv:outs l fn.results.toList=some vs)(h:R (.returned (pack vs)) w)(hds:dsOf l=[]:=by kernel_rfl):retS P fn N R .ret l w:=⟨hds,_,fun _ ha=>results_ok ha w hv,h⟩
theorem end_ok {P:Program}{fn:Func}{N:Nat}{R:Ending→World→Prop}{l:Slots}{w:World}(vs:List Value)(hv:outs l fn.results.toList=some vs)(h:R (.returned (pack vs)) w)(hds:dsOf l=[]:=by kernel_rfl):retS P fn N R .normal l w:=⟨hds,_,fun _ ha=>results_ok ha w hv,h⟩

theorem cell_run {P:Program}{fn:Func}{N:Nat}{l:Slots}{w:World}{c:Tmp}{t:TypeId}{p:Addr}{v:Value}(hr:fn.results=#[.cell c t])(hl:look l c=some (.pointer (some p)))(h:(loadVar t p).run P w=.ok v w)(a:Act)(ha:Fr N l a):(results fn a.tmps).run P w=.ok v w:=by
  have h3:a.tmps.getD c undef=.pointer (some p):=by
    have:=ha.at_ c _ hl
    simp[Array.getD_eq_getD_getElem?,this]
  unfold results
  rw[hr,Array.mapM_eq_mapM_toList]
  simp only[Sem.run_bind,Sem.run_map,Sem.run_pure,List.mapM_cons,List.mapM_nil,h3,asAddr,Result.andThen_ok,h]
  simp
theorem ret_cell {P:Program}{fn:Func}{N:Nat}{R:Ending→World→Prop}{l:Slots}{w:World}{c:Tmp}{t:TypeId}{p:Addr}{v:Value}(hr:fn.results=#[.cell c t])(hl:look l c=some (.pointer (some p)))(h:(loadVar t p).run P w=.ok v w)(hR:R (.returned v) w)(hds:dsOf l=[]:=by kernel_rfl):retS P fn N R .ret l w:=⟨hds,v,fun a ha=>cell_run hr hl h a ha,hR⟩

def Ent (P:Program)(f:FuncId):Prop:=∀ (args:Array Value) (w:World),(callFunc f args).run P w=.ok (.enter f args) w
theorem ent_of {P:Program}{f:FuncId}{fn:Func}{c:Code}(hf:P.funcs[f]?=some fn)(hname:(fn.name== "runtime.NumGoroutine")=false)(hb:fn.body=some c):Ent P f:=by
  intro args w
  have h1:fn.name≠ "runtime.NumGoroutine" := by simpa using hname
  simp[callFunc,hf,h1,hb,mark]

def evs (l:Slots):List Operand→Option (List Value)
  | []=>some []
  | x::r=>match ev l x,evs l r with
    | some v,some vs=>some (v::vs)
    | _,_=>none
theorem evs_ok {N:Nat}{l:Slots}{a:Act}(h:Fr N l a):∀ (xs:List Operand) (vs:List Value),evs l xs=some vs→xs.map a.eval=vs
  | [],vs,hv=>by simp only[evs,Option.some.injEq]at hv; subst hv; rfl
  | x::r,vs,hv=>by
    simp only[evs]at hv
    split at hv
    · rename_i v vs' h1 h2
      simp only[Option.some.injEq]at hv
      subst hv
      simp[ev_ok h h1,evs_ok h r vs' h2]
    · cases hv

section
variable {P : Program} {N : Nat} {ops : Array Oper} {qs : QS} {rest : List Oper} {o : Oper} {l : Slots} {w : World}

theorem wp_enter {a:Act}{K:Act→World→Prop}{Q:Exit→Act→World→Prop}{f:FuncId}{args:Array Value}{R:Ending→World→Prop}(hr:(execOp a.eval o).run P w=.ok (.enter f args) w)(hc:Calls P f args w R)
    (hn:∀ e w',R e w'→∃ v,e=.returned v∧K (a.put o.dst v) w'):o.wp P a w K Q:=by
  unfold Oper.wp
  rw[hr]
  show Calls P f args w _
  refine hc.mono fun e w' hR=>?_
  obtain⟨v,rfl,hk⟩:=hn e w' hR
  exact hk

theorem XL_call (f:FuncId){as:Array Operand}{ts:Array TypeId}(ho:o.op=.call { callee:=.value (.func f),args:=as,argTypes:=ts })(hg:gd ops l o=some true)(hd:okD N o.dst=true)(en:Ent P f)(vs:List Value)(hv:evs l as.toList=some vs)
    {R:Ending→World→Prop} (hc:Calls P f vs.toArray w R) (hn:∀ e w',R e w'→∃ v,e=.returned v∧XL P N ops rest qs (putS l o.dst v) w'):XL P N ops (o::rest) qs l w:=by
  intro a ha
  refine wpList_step fun K hK=>?_
  rw[if_pos (gd_ok ha hg)]
  have hargs:as.map a.eval=vs.toArray:=by
    apply Array.toList_inj.1
    simpa using evs_ok ha _ _ hv
  refine wp_enter (f:=f) (args:=vs.toArray) ?_ hc fun e w' hR=>?_
  · unfold execOp
    simp only[ho,resolve,Act.eval,Deferred.ofValue,Sem.run_bind,Sem.run_pure,Result.andThen_ok,invoke,hargs]
    simpa using en vs.toArray w
  · obtain⟨v,h1,h2⟩:=hn e w' hR
    exact⟨v,h1,hK _ _ (h2 _ (ha.putS hd v))⟩

theorem XL_law (hd:okD N o.dst=true)(hg:gd ops l o=some true)(h:∀ a,Fr N l a→wpList P ops (lift N qs) ({ o with guard:=none }::rest) a w):XL P N ops (o::rest) qs l w:=by
  intro a ha
  have h1:=h a ha
  have hw:=gd_ok ha hg
  unfold wpList at h1 ⊢
  rw[if_pos (by simp[Region.wanted])]at h1
  rw[if_pos hw]
  exact h1
end

theorem X_join {P:Program}{N:Nat}{qs:QS}{l:Slots}{w:World}{x y:Code}{ι:Type}(ls:ι→Slots)(R:ι→World→Prop)
    (h1:X P N x (thenS (fun l' w'=>∃ i,keep l' ((ls i).map (·.1))=ls i∧R i w') qs) l w) (h2:∀ i w',R i w'→X P N y qs (ls i) w'):X P N (.seq x y) qs l w:=by
  intro a ha
  refine wp_seq (wp_mono (h1 a ha) ?_)
  rintro e a' w' ⟨l',hl',hq⟩
  cases e<;>first|exact⟨l',hl',hq⟩|skip
  obtain⟨i,he,hR⟩:=hq
  exact h2 i w' hR a' (by rw[←he]; exact hl'.keep _)

theorem new_world (w:World)(cs:Array Value)(t:TypeId):∃ w1,w.alloc (.cells cs t)=w1∧Below w.heap.size w w1∧w1.heap[w.heap.size]?=some (.cells cs t (0,0))∧w1.heap.size=w.heap.size+1:=
  ⟨_,rfl,(Below.refl _ _).alloc (Nat.le_refl _) _,heap_alloc_new w _,by simp⟩

abbrev Blk (w:World)(g:Nat)(t:TypeId)(cs:Array Value):Prop:=w.heap[g]?=some (.cells cs t (0,0))
theorem Blk.cell {w:World}{g:Nat}{t:TypeId}{cs:Array Value}(h:Blk w g t cs)(i:Nat)(v:Value)(hi:cs[i]?=some v):w.cell? ⟨g,i,none⟩=some v:=by simp[World.cell?,h,hi]
theorem Blk.free {w:World}{g:Nat}{t:TypeId}{cs:Array Value}(h:Blk w g t cs)(i:Nat):w.frozen? ⟨g,i,none⟩=false:=by simp[World.frozen?,h]
theorem Blk.lt {w:World}{g:Nat}{t:TypeId}{cs:Array Value}(h:Blk w g t cs):g<w.heap.size:=(Array.getElem?_eq_some_iff.1 h).1
theorem Blk.below {w w1:World}{g:Nat}{t:TypeId}{cs:Array Value}(h:Blk w g t cs)(hb:Below w.heap.size w w1):Blk w1 g t cs:=(hb.block g h.lt).trans h

def plainT (P:Program)(t:TypeId):Bool:=match P.underlying t with
  | some (.struct _)|some (.array _ _)|none=>false
  | _=>true
def aggT (P:Program)(t:TypeId):Bool:=match P.underlying t with
  | some (.struct _)|some (.array _ _)=>true
  | _=>false
theorem isAgg_plain {P:Program}{t:TypeId}(h:plainT P t=true)(w:World):(isAgg t).run P w=.ok false w:=by
  unfold plainT at h
  cases hu:P.underlying t with
  | none=>rw[hu]at h; simp at h
  | some d=>cases d<;>simp_all[isAgg,run_underlying hu]
theorem isAgg_agg {P:Program}{t:TypeId}(h:aggT P t=true)(w:World):(isAgg t).run P w=.ok true w:=by
  unfold aggT at h
  cases hu:P.underlying t with
  | none=>rw[hu]at h; simp at h
  | some d=>cases d<;>simp_all[isAgg,run_underlying hu]

theorem loads1 {P:Program}{t:TypeId}{p:Addr}{v:Value}{w:World}(ht:plainT P t=true)(h:w.cell? p=some v):LoadsAs P t p v w:=by
  unfold LoadsAs loadVar
  simp[isAgg_plain ht w,load,Sem.run,h]
theorem loadsN {P:Program}{t:TypeId}{p:Addr}{cs:List Value}{w:World}(ht:aggT P t=true)(hs:sizeP P t=some cs.length)(h:∀ j u,cs[j]?=some u→w.cell? (p.add j)=some u):LoadsAs P t p (.agg cs.toArray) w:=by
  obtain⟨inf,hinf,hsz⟩:=Option.map_eq_some_iff.1 hs
  unfold LoadsAs loadVar
  have:=run_loadCells_list (P:=P) w p cs h
  simp[isAgg_agg ht w,sizeOf,typeInfo,hinf,hsz,this]

def CellsAt (w:World)(p:Addr)(cs:List Value):Prop:=∀ j u,cs[j]?=some u→w.cell? (p.add j)=some u
theorem add_add (a:Addr)(i j:Nat):(a.add i).add j=a.add (i+j):=by
  unfold Addr.add
  by_cases hi:i=0<;>by_cases hj:j=0<;>simp[hi,hj,Nat.add_assoc]
theorem elem_cell {w:World}{p:Addr}{cs:List Value}(h:CellsAt w p cs)(i:Nat)(v:Value)(hi:cs[i]?=some v):w.cell? (p.add i)=some v:=h i v hi
theorem loadsE {P:Program}{t:TypeId}{p:Addr}{cs:List Value}{n:Nat}{vs:List Value}{w:World}(ht:aggT P t=true)(hs:sizeP P t=some n)(h:CellsAt w p cs)(off:Nat)(hv:(cs.drop off).take n=vs∧vs.length=n):LoadsAs P t (p.add off) (.agg vs.toArray) w:=by
  obtain⟨hv,hl⟩:=hv
  refine loadsN ht (by rw[hl]; exact hs) fun j u hu=>?_
  rw[add_add]
  refine h _ u ?_
  rw[←hv,List.getElem?_take]at hu
  split at hu
  · rw[List.getElem?_drop]at hu; exact hu
  · cases hu
theorem loadsB {P:Program}{t:TypeId}{g n:Nat}{bt:TypeId}{cs:Array Value}{vs:List Value}{w:World}(ht:aggT P t=true)(hs:sizeP P t=some n)(h:Blk w g bt cs)(off:Nat)(hv:(cs.toList.drop off).take n=vs∧vs.length=n):LoadsAs P t ⟨g,off,none⟩ (.agg vs.toArray) w:=by
  obtain⟨hv,hl⟩:=hv
  refine loadsN ht (by rw[hl]; exact hs) fun j u hu=>?_
  have ha:(⟨g,off,none⟩:Addr).add j=⟨g,off+j,none⟩:=by unfold Addr.add; split<;>simp_all
  rw[ha]
  refine h.cell _ u ?_
  rw[←hv,List.getElem?_take]at hu
  split at hu
  · rw[List.getElem?_drop]at hu; simpa using hu
  · cases hu

theorem bt {a b c:World}(h:Below a.heap.size a b)(k:Below b.heap.size b c):Below a.heap.size a c:=h.trans (k.mono h.size)
theorem bg {a b c:World}(h:Below a.heap.size a b){g:Nat}(k:b.grownBy c (some g))(hg:a.heap.size≤g):Below a.heap.size a c:=h.grown k h.size (fun x hx=>by injection hx with hx; omega)
theorem wr_i64 {x:Int}(h1: -9223372036854775808≤x)(h2:x≤9223372036854775807):Value.int .i64 (IntKind.i64.wrap x)=.int .i64 x:=by rw[IntWalk.i64_in x ⟨h1,h2⟩]
theorem bneT {a b:Int}(h:¬a=b):(a !=b)=true:=bne_iff_ne.2 h
theorem bneF {a b:Int}(h:a=b):(a !=b)=false:=by simp[h]
theorem strEqT {a b:ByteArray}(h:a=b):(a.toList==b.toList)=true:=by simp[h]
theorem bytes_ext {a b:ByteArray}(h:a.toList=b.toList):a=b:=by
  have ha:a.toList=a.data.toList:=by rw[ByteArray.toList_eq]
  have hb:b.toList=b.data.toList:=by rw[ByteArray.toList_eq]
  rw[ha,hb]at h
  cases a; cases b
  simp only[ByteArray.mk.injEq]
  exact Array.toList_inj.1 h
theorem strEqF {a b:ByteArray}(h:¬a=b):(a.toList==b.toList)=false:=by
  rw[beq_eq_false_iff_ne]; exact fun e=>h (bytes_ext e)
theorem strNeT {a b:ByteArray}(h:¬a=b):(!a.toList==b.toList)=true:=by rw[strEqF h]; rfl
theorem strNeF {a b:ByteArray}(h:a=b):(!a.toList==b.toList)=false:=by rw[strEqT h]; rfl

def setAll (cs:Array Value)(i:Nat):List Value→Array Value
  | []=>cs
  | v::r=>setAll (cs.setIfInBounds i v) (i+1) r

theorem run_store_blk {P:Program}{t:TypeId}{g off:Nat}:∀ (vs:List Value) (i:Nat) (cs:Array Value) (w:World),Blk w g t cs→off+i+vs.length≤cs.size→(vs.all (·.oneCell'))=true→
    ∃ w1,(storeCells ⟨g,off,none⟩ vs i).run P w=.ok () w1∧Blk w1 g t (setAll cs (off+i) vs)∧w.grownBy w1 (some g)∧w1.heap.size=w.heap.size
  | [],i,cs,w,h,_,_=>⟨w,by simp[storeCells],h,World.grownBy.refl w _,rfl⟩
  | v::r,i,cs,w,h,hl,h1=>by
    simp only[List.all_cons,Bool.and_eq_true]at h1
    simp only[List.length_cons]at hl
    have hlt:off+i<cs.size:=by omega
    have hc:w.cell? ⟨g,off+i,none⟩=some cs[off+i]:=Blk.cell h _ _ (Array.getElem?_eq_getElem hlt)
    have hf:=Blk.free h (off+i)
    have hb1:Blk (w.setCell ⟨g,off+i,none⟩ v) g t (cs.setIfInBounds (off+i) v):=by
      unfold Blk at h ⊢
      simp[World.setCell,Array.getElem?_modify,h]
    have hg1:w.grownBy (w.setCell ⟨g,off+i,none⟩ v) (some g):=⟨rfl,rfl,rfl,by simp,fun k hk hne=>Below.heap_setCell w _ v k (by intro e; subst e; exact hne rfl)⟩
    obtain⟨w1,hr,hb,hg,hs⟩:=run_store_blk (P:=P) (t:=t) (off:=off) r (i+1) (cs.setIfInBounds (off+i) v) _ hb1 (by simpa using(by omega:off+(i+1)+r.length≤cs.size)) h1.2
    refine⟨w1,?_,hb,World.grownBy.trans hg1 hg,by rw[hs]; simp⟩
    have ha:(⟨g,off,none⟩:Addr).add i=⟨g,off+i,none⟩:=by unfold Addr.add; split<;>simp_all
    have hst:(store ⟨g,off+i,none⟩ v).run P w=.ok () (w.setCell ⟨g,off+i,none⟩ v):=by
      rw[run_store P w _ v .plain h1.1]
      simp[stored,hc,hf]
    simp only[storeCells,ha,Sem.run_bind,hst,Result.andThen_ok,hr]

theorem XL_store {P:Program}{N:Nat}{ops:Array Oper}{qs:QS}{rest:List Oper}{o:Oper}{l:Slots}{w:World}{t:TypeId}{p x:Operand}(ho:o.op=.store t p x)(hdn:o.dst=none)(hg:gd ops l o=some true)
    {g:Nat} {bt:TypeId} {cs:Array Value} {v:Value} {off:Nat} (hp:evs l [p,x]=some [.pointer (some ⟨g,off,none⟩),v]) (hb:Blk w g bt cs) (off':Nat) (vs:List Value) (cs':Array Value)
    (hv:v.cells.toList=vs∧off=off'∧sizeP P t=some vs.length) (hc:setAll cs off' vs=cs'∧vs.all (·.oneCell')=true) (hl:off'+vs.length≤cs.size)
    (hn:∀ w1,w.grownBy w1 (some g)→Blk w1 g bt cs'→w1.heap.size=w.heap.size→XL P N ops rest qs l w1):XL P N ops (o::rest) qs l w:=by
  obtain⟨hv,rfl,hs⟩:=hv
  obtain⟨hc,h1⟩:=hc
  subst hv
  obtain⟨inf,hinf,hsz⟩:=Option.map_eq_some_iff.1 hs
  obtain⟨w1,hr,hb1,hg1,hs1⟩:=run_store_blk (P:=P) (off:=off) _ 0 cs w hb (by simpa using hl) h1
  rw[Nat.add_zero,hc]at hb1
  intro a ha
  refine wpList_step fun K hK=>?_
  rw[if_pos (gd_ok ha hg)]
  have he:=evs_ok ha _ _ hp
  simp only[List.map_cons,List.map_nil,List.cons.injEq,and_true]at he
  unfold Oper.wp
  have hrun:(execOp a.eval o).run P w=.ok .skip w1:=by
    unfold execOp
    simp only[ho,he.1,he.2,Instr.storeAt,Instr.sureAddr,Sem.run_bind,Sem.run_pure,Result.andThen_ok,storeVar]
    simp[sizeOf,typeInfo,hinf,hsz,hr]
  rw[hrun]
  have:=hn w1 hg1 hb1 hs1 a ha
  show K (a.put o.dst undef) w1
  rw[hdn]
  exact hK _ _ this

def gq (P:Program) (N:Nat) (ops:Array Oper) (ov:List (Nat×Ov)) (w:World):List Oper→Slots→Option (List Value×List World×List Prop)
  | [],_=>some ([],[],[])
  | o::r,l=>
    bif okD N o.dst then
    match gd ops l o with
    | some true=>match gx1 P l w o (ovOf ov o.dst)with
      | some (v,w',cs)=>match gq P N ops ov w r (putS l o.dst v)with
        | some (vs,ws,cs2)=>some (v::vs,w'::ws,cs++cs2)
        | none=>none
      | none=>none
    | some false=>match gq P N ops ov w r (putS l o.dst undef)with
        | some (vs,ws,cs2)=>some (undef::vs,w::ws,cs2)
        | none=>none
    | none=>none
    else none

def putAll :List Oper→List Value→Slots→Slots
  | o::r,v::vs,l=>putAll r vs (putS l o.dst v)
  | _,_,l=>l

def XS (P:Program)(N:Nat)(ops:Array Oper)(w:World)(os:List Oper)(qs:Slots→Prop)(l:Slots):Prop:=∀ a,Fr N l a→wpStill P ops w (fun a'=>∃ l',Fr N l' a'∧qs l') os a

theorem XS_gq {P:Program}{N:Nat}{ops:Array Oper}{ov:List (Nat×Ov)}{w:World}{qs:Slots→Prop}{rest:List Oper}:∀ (os:List Oper) (l:Slots) (vs:List Value) (cs:List Prop),
    gq P N ops ov w os l=some (vs,List.replicate os.length w,cs)→allP cs→XS P N ops w rest qs (putAll os vs l)→XS P N ops w (os++rest) qs l
  | [],l,vs,cs,h,_,hn=>by simpa [putAll] using hn
  | o::r,l,vs,cs,h,hc,hn=>by
    intro a ha
    show wpStill P ops w _ (o::(r++rest)) a
    simp only[gq]at h
    cases hd:okD N o.dst with
    | false=>rw[hd]at h; cases h
    | true=>
      rw[hd]at h
      simp only[cond_true]at h
      refine wpStill_step fun K hK=>?_
      split at h
      · rename_i hg
        rw[if_pos (gd_ok ha hg)]
        split at h
        · rename_i v w1 cs1 h1
          split at h
          · rename_i vs2 ws2 cs2 h2
            simp only[Option.some.injEq,Prod.mk.injEq,List.length_cons,List.replicate_succ,List.cons.injEq]at h
            obtain⟨rfl,⟨rfl,rfl⟩,rfl⟩:=h
            obtain⟨hc1,hc2⟩:=allP_append hc
            have hk:=hK _ (XS_gq r _ vs2 cs2 h2 hc2 hn _ (ha.putS hd v))
            unfold Oper.still
            rcases gx1_ok h1 hc1 ha with hr|⟨hr,rfl,_⟩
            · rw[hr]; exact⟨rfl,hk⟩
            · rw[hr]; exact⟨rfl,hk⟩
          · cases h
        · cases h
      · rename_i hg
        rw[if_neg (by rw[gd_ok ha hg]; decide)]
        split at h
        · rename_i vs2 ws2 cs2 h2
          simp only[Option.some.injEq,Prod.mk.injEq,List.length_cons,List.replicate_succ,List.cons.injEq]at h
          obtain⟨rfl,⟨_,rfl⟩,rfl⟩:=h
          exact hK _ (XS_gq r _ vs2 cs2 h2 hc hn _ (ha.putS hd undef))
        · cases h
      · cases h
theorem XS_run {P:Program}{N:Nat}{ops:Array Oper}{w:World}{qs:Slots→Prop}{os:List Oper}{l:Slots}(k:Nat)(ov:List (Nat×Ov))(vs:List Value)(l':Slots)(cs:List Prop)
    (h:gq P N ops ov w (os.take k) l=some (vs,List.replicate (os.take k).length w,cs)) (hk:keep (putAll (os.take k) vs l) (l'.map (·.1))=l') (hc:allP cs) (hn:XS P N ops w (os.drop k) qs l'):XS P N ops w os qs l:=by
  rw[←List.take_append_drop k os]
  refine XS_gq _ _ vs cs h hc ?_
  intro a ha
  exact hn a (by rw[←hk]; exact ha.keep _)
def vsQ :Option (List Value×List World×List Prop)→List Value
  | some r=>r.1
  | none=>[]
theorem xse {P:Program}{N:Nat}{ops:Array Oper}{w:World}{qs:Slots→Prop}{os:List Oper}{l:Slots}(k:Nat)(ov:List (Nat×Ov))(l':Slots)(cs:List Prop)(hc:allP cs)(hn:XS P N ops w (os.drop k) qs l')
    (h:gq P N ops ov w (os.take k) l=some (vsQ (gq P N ops ov w (os.take k) l),List.replicate (os.take k).length w,cs):=by kernel_rfl) (hk:keep (putAll (os.take k) (vsQ (gq P N ops ov w (os.take k) l)) l) (l'.map (·.1))=l':=by kernel_rfl):XS P N ops w os qs l:=XS_run k ov _ _ cs h hk hc hn
theorem xsC {P:Program}{N:Nat}{ops:Array Oper}{w:World}{qs:Slots→Prop}{os:List Oper}{l:Slots}(k:Nat)(ov:List (Nat×Ov))(new:Slots)(dd:List Nat)(cs:List Prop)(hc:allP cs)(hn:XS P N ops w (os.drop k) qs (nx new l dd))
    (h:gq P N ops ov w (os.take k) l=some (vsQ (gq P N ops ov w (os.take k) l),List.replicate (os.take k).length w,cs):=by kernel_rfl) (hk:keep (putAll (os.take k) (vsQ (gq P N ops ov w (os.take k) l)) l) ((nx new l dd).map (·.1))=nx new l dd:=by kernel_rfl):XS P N ops w os qs l:=XS_run k ov _ _ cs h hk hc hn
theorem XS_nil {P:Program}{N:Nat}{ops:Array Oper}{w:World}{qs:Slots→Prop}{l:Slots}(h:qs l):XS P N ops w [] qs l:=fun a ha=>wpStill_nil ⟨l,ha,h⟩
theorem below_drew (w:World):Below w.heap.size w { w with drawn:=w.drawn+1 }:=⟨rfl,rfl,rfl,Nat.le_refl _,fun _ _=>rfl⟩
theorem X_still {P:Program}{N:Nat}{qs:QS}{l:Slots}{w:World}{id:Nat}{ops:Array Oper}(hm:P.follows .mixedOrders=true)(hB:Region.lexB .any ops=true)
    (h:∀ wd,Below w.heap.size w wd→wd.heap=w.heap→XS P N ops wd ops.toList (fun l'=>qs .normal l' wd) l):X P N (.region id ops true) qs l w:=by
  intro a ha
  refine wp_region_still hm hB ?_
  have:=h _ (below_drew w) rfl a ha
  have mono:∀ (os:List Oper) (a:Act),wpStill P ops { w with drawn:=w.drawn+1 } (fun a'=>∃ l',Fr N l' a'∧qs .normal l' { w with drawn:=w.drawn+1 }) os a→
      wpStill P ops { w with drawn:=w.drawn+1 } (fun a'=>lift N qs .normal a' { w with drawn:=w.drawn+1 }) os a:=fun os a h=>h
  exact mono _ _ this
section
variable {P : Program} {N : Nat} {qs : QS} {l : Slots} {w : World} {x y : Code} {id : Nat} {ops : Array Oper} {os : List Oper}
theorem nl (h:qs .normal l w):XL P N ops [] qs l w:=XL_nil h
theorem sq (h:X P N x (thenS (X P N y qs) qs) l w):X P N (.seq x y) qs l w:=X_seq h
theorem rg (h:XL P N ops ops.toList qs l w):X P N (.region id ops false) qs l w:=X_region h
theorem sk (h:qs .normal l w):X P N .skip qs l w:=X_skip h
theorem bk (h:X P N x (blockS id qs) l w):X P N (.block id x) qs l w:=X_block h
theorem ct {c:Operand}(h:X P N x qs l w)(hc:ev l c=some (.bool true):=by kernel_rfl):X P N (.cond c x y) qs l w:=X_cond true hc h
theorem cf {c:Operand}(h:X P N y qs l w)(hc:ev l c=some (.bool false):=by kernel_rfl):X P N (.cond c x y) qs l w:=X_cond false hc h
theorem xq (k:Nat)(ov:List (Nat×Ov))(l':Slots)(w':World)(cs:List Prop)(hc:allP cs)(hn:XL P N ops (os.drop k) qs l' w')(h:(gx P N ops ov (os.take k) l w).map (fun r=>(keep r.1 (l'.map (·.1)),r.2))=some (l',w',cs):=by kernel_rfl):XL P N ops os qs l w:=XL_run k ov l' w' cs h hc hn
theorem rk {fn:Func}{R:Ending→World→Prop}(vs:List Value)(h:R (.returned (pack vs)) w)(hv:outs l fn.results.toList=some vs:=by kernel_rfl)(hds:dsOf l=[]:=by kernel_rfl):retS P fn N R .ret l w:=ret_ok vs hv h hds
theorem ek {fn:Func}{R:Ending→World→Prop}(vs:List Value)(h:R (.returned (pack vs)) w)(hv:outs l fn.results.toList=some vs:=by kernel_rfl)(hds:dsOf l=[]:=by kernel_rfl):retS P fn N R .normal l w:=end_ok vs hv h hds
theorem xc {rest:List Oper}{d:Option Tmp}{ty:TypeId}{ps:String}{af:Array Edge}{gu:Option (Nat×Bool)}{as:Array Operand}{ts:Array TypeId}{R:Ending→World→Prop}(f:FuncId)(en:Ent P f)(vs:List Value)(hc:Calls P f vs.toArray w R)
    (hn:∀ e w',R e w'→∃ v,e=.returned v∧XL P N ops rest qs (putS l d v) w') (hg:gd ops l { dst:=d,op:=.call { callee:=.value (.func f),args:=as,argTypes:=ts },type:=ty,pos:=ps,after:=af,guard:=gu }=some true:=by kernel_rfl) (hd:okD N d=true:=by kernel_rfl) (hv:evs l as.toList=some vs:=by kernel_rfl):
    XL P N ops ({ dst:=d,op:=.call { callee:=.value (.func f),args:=as,argTypes:=ts },type:=ty,pos:=ps,after:=af,guard:=gu }::rest) qs l w:=XL_call f rfl hg hd en vs hv hc hn
theorem xst {rest:List Oper}{ty:TypeId}{ps:String}{af:Array Edge}{gu:Option (Nat×Bool)}{t:TypeId}{p x:Operand}{g:Nat}{bt:TypeId}{cs:Array Value}(v:Value)(hb:Blk w g bt cs)(off:Nat)(cs':Array Value)
    (hn:∀ w1,w.grownBy w1 (some g)→Blk w1 g bt cs'→w1.heap.size=w.heap.size→XL P N ops rest qs l w1) (hg:gd ops l { dst:=none,op:=.store t p x,type:=ty,pos:=ps,after:=af,guard:=gu }=some true:=by kernel_rfl) (hp:evs l [p,x]=some [.pointer (some ⟨g,off,none⟩),v]:=by kernel_rfl)
    (hs:sizeP P t=some v.cells.toList.length:=by kernel_rfl) (hc:setAll cs off v.cells.toList=cs':=by kernel_rfl) (h1:v.cells.toList.all (·.oneCell')=true:=by kernel_rfl) (hl:Nat.ble (off+v.cells.toList.length) cs.size=true:=by kernel_rfl):
    XL P N ops ({ dst:=none,op:=.store t p x,type:=ty,pos:=ps,after:=af,guard:=gu }::rest) qs l w:=XL_store rfl rfl hg hp hb off v.cells.toList cs' ⟨rfl,rfl,hs⟩ ⟨hc,h1⟩ (Nat.le_of_ble_eq_true hl) hn
end
abbrev i6 (x:Int):Value:=.int .i64 x
abbrev sT (x:ByteArray):Value:=.string x
abbrev bT :Value:=.bool true
abbrev bF :Value:=.bool false
abbrev s0 :Value:=.string ByteArray.empty
abbrev aL {α:Type}(A:Option Addr)(xs:List α)(c:Nat):Value:=.slice A xs.length c
theorem sg {P:Program}{N id:Nat}{qs:QS}{l:Slots}{w:World}{y:Code}{ops:Array Oper}(h:XL P N ops ops.toList (thenS (X P N y qs) qs) l w):X P N (.seq (.region id ops false) y) qs l w:=sq (rg h)
theorem rj {P:Program}{N:Nat}{l:Slots}{w:World}{fn:Func}{R Q:Ending→World→Prop}(vs:List Value)(hR:∀ e w,Q e w→R e w)(h:Q (.returned (pack vs)) w)(hv:outs l fn.results.toList=some vs:=by kernel_rfl)(hds:dsOf l=[]:=by kernel_rfl):retS P fn N R .ret l w:=rk vs (hR _ _ h) hv hds
theorem lB {P:Program}{t:TypeId}{g n:Nat}{bt:TypeId}{cs:Array Value}{vs:List Value}{w:World}(h:Blk w g bt cs)(off:Nat)(hv:(cs.toList.drop off).take n=vs:=by kernel_rfl)(hl:vs.length=n:=by kernel_rfl)(ht:aggT P t=true:=by rfl)(hs:sizeP P t=some n:=by rfl):LoadsAs P t ⟨g,off,none⟩ (.agg vs.toArray) w:=loadsB ht hs h off ⟨hv,hl⟩
theorem lE {P:Program}{t:TypeId}{p:Addr}{cs:List Value}{n:Nat}{vs:List Value}{w:World}(h:CellsAt w p cs)(off:Nat)(hv:(cs.drop off).take n=vs:=by kernel_rfl)(hl:vs.length=n:=by kernel_rfl)(ht:aggT P t=true:=by rfl)(hs:sizeP P t=some n:=by rfl):LoadsAs P t (p.add off) (.agg vs.toArray) w:=loadsE ht hs h off ⟨hv,hl⟩
abbrev a4 (x:ByteArray×Int×Int×ByteArray):Array Value:=#[sT x.1,i6 x.2.1,i6 x.2.2.1,sT x.2.2.2]
theorem en {P:Program}{f:FuncId}{fn:Func}{c:Code}{args:Array Value}{w:World}{R:Ending→World→Prop}(hf:P.funcs[f]?=some fn)(hb:fn.body=some c)(N:Nat)(l0:Slots)
    (h:∀ R_:Ending→World→Prop,(∀ e w',R e w'→R_ e w')→X P N c (retS P fn N R_) l0 w) (hN:fn.ntmps=N:=by rfl) (hl:zipA args.toList 0=l0:=by rfl) (hn:(Nat.ble args.size N&&Nat.ble N dk)=true:=by kernel_rfl):Calls P f args w R:=RX.enter hf hb N hN l0 hl hn h
def tf (a b:Nat):Array Bool:=(List.replicate a true++List.replicate b false).toArray
theorem bE {α:Type}[BEq α][LawfulBEq α]{x y:α}(h:x=y):Value.bool (x==y)=.bool true:=by rw[beq_iff_eq.2 h]
theorem bN {α:Type}[BEq α][LawfulBEq α]{x y:α}(h:¬x=y):Value.bool (x==y)=.bool false:=by rw[beq_eq_false_iff_ne.2 h]
theorem dT {p:Prop}[Decidable p](h:p):Value.bool (decide p)=.bool true:=by rw[decide_eq_true h]
theorem dF {p:Prop}[Decidable p](h:¬p):Value.bool (decide p)=.bool false:=by rw[decide_eq_false h]
theorem nT {a b:Int}(h:¬a=b):Value.bool (a !=b)=.bool true:=by rw[bneT h]
theorem nF {a b:Int}(h:a=b):Value.bool (a !=b)=.bool false:=by rw[bneF h]
theorem w6 (x:Int)(h1: -9223372036854775808≤x:=by omega)(h2:x≤9223372036854775807:=by omega):Value.int .i64 (IntKind.i64.wrap x)=.int .i64 x:=wr_i64 h1 h2
theorem xr1 {P:Program}{N:Nat}{ops:Array Oper}{qs:QS}{os:List Oper}{l:Slots}{w:World}(k:Nat)(ov:List (Nat×Ov))(new:Slots)(ds:List Nat){c:Prop}(hc:c)(hn:XL P N ops (os.drop k) qs (nx new l ds) w)
    (h:(gx P N ops ov (os.take k) l w).map (fun r=>(keep r.1 ((nx new l ds).map (·.1)),r.2))=some (nx new l ds,w,[c]):=by kernel_rfl):XL P N ops os qs l w:=xr k ov new ds [c] ⟨hc,trivial⟩ hn h
theorem xe1 {P:Program}{N:Nat}{ops:Array Oper}{qs:QS}{os:List Oper}{l:Slots}{w:World}(k:Nat)(ov:List (Nat×Ov))(l':Slots){c:Prop}(hc:c)(hn:XL P N ops (os.drop k) qs l' w)
    (h:(gx P N ops ov (os.take k) l w).map (fun r=>(keep r.1 (l'.map (·.1)),r.2))=some (l',w,[c]):=by kernel_rfl):XL P N ops os qs l w:=xe k ov l' [c] ⟨hc,trivial⟩ hn h
end Go.Proofs.YtlnnjfdonilgmaaGreatDoor.RX
