import Derived.Test.YtlnnjfdonilgmaaGreatDoorIn
import Derived.Test.YtlnnjfdonilgmaaGreatDoorMrk
import Derived.Test.YtlnnjfdonilgmaaGreatDoorChg
import Derived.Test.YtlnnjfdonilgmaaGreatDoorMap
import Derived.Stop.Asserts
/- Iterators: what they go over as a list; marks; what lies below a bound stays. No condition. -/

set_option linter.unusedVariables false
set_option linter.unusedSimpArgs false
namespace Go.Proofs.YtlnnjfdonilgmaaGreatDoor
open Go Go.RowKit Go.Proofs.YtlnnjfdonilgmaaGreatDoorW.PrintWords RX
namespace RX
theorem Fr.mark {N:Nat}{l:Slots}{a:Act}(h0:lookS l dk=none)(h:Fr N l a):Fr N ((dk,encD [])::l) a:=
  ⟨h.size,h.lt,by
    have e1:=h.defers
    have e2:dsOf l=[]:=by unfold dsOf; rw[h0]
    have e3:dsOf ((dk,encD [])::l)=[]:=by unfold dsOf; rw[lookS_eq]; rfl
    rw[e1,e2,e3],fun i v hv=>by
    obtain⟨hi,hv⟩:=look_some hv
    rw[lookS_ne hi]at hv
    exact h.at_ i v (by rw[look_of hi]; exact hv)⟩
theorem dsOf_enc {l:Slots}{ds:List Nat}(h:lookS l dk=some (encD ds)):dsOf l=ds.map mkD:=by unfold dsOf; rw[h]; exact decD_enc ds
theorem X_mark0 {P:Program}{N:Nat}{c:Code}{qs:QS}{l:Slots}{w:World}(h0:lookS l dk=none)(h:X P N c qs ((dk,encD [])::l) w):X P N c qs l w:=fun a ha=>h a (ha.mark h0)
end RX
theorem bel_lo2 {n m:Nat}{a b:World}(h:Below n a b)(hn:m≤n):Below m a b:=⟨h.os,h.tape,h.output,h.size,fun k hk=>h.block k (Nat.lt_of_lt_of_le hk hn)⟩
theorem abides_below {β:Type}{B:Nat}{J:β→World→Prop}(h:AbidesFrom B J){s:β}{W W':World}(hb:Below W.heap.size W W')(hj:J s W):J s W':=h s W W' none hj (grown_of_below hb none) (fun r e=>by cases e)
section
variable {α : Type} {m : Nat} {f : Nat → α} {pre : List α} {x : α}
end
end Go.Proofs.YtlnnjfdonilgmaaGreatDoor

set_option linter.unusedVariables false
set_option linter.unusedSimpArgs false
namespace Go.Proofs.YtlnnjfdonilgmaaGreatDoor.RX
open Go Go.RowKit Go.Proofs.YtlnnjfdonilgmaaGreatDoorW.PrintWords
structure KpM (D M:Nat→Prop) (A B:World):Prop where
  os:B.os=A.os
  tape:B.tape=A.tape
  output:B.output=A.output
  size:A.heap.size≤B.heap.size
  lo:∀ k,D k→B.heap[k]?=A.heap[k]?
  k:∀ k o,A.heap[k]?=some o→(o.isCells=true∨o.isWalk=true)→¬M k→B.heap[k]?=some o
theorem KpM.trans {D M:Nat→Prop}{A B C:World}(h:KpM D M A B)(g:KpM D M B C):KpM D M A C:=
  ⟨g.os.trans h.os,g.tape.trans h.tape,g.output.trans h.output,Nat.le_trans h.size g.size,fun k hk=>(g.lo k hk).trans (h.lo k hk),fun k o h1 h2 h3=>g.k k o (h.k k o h1 h2 h3) h2 h3⟩
theorem KpM.putObj {D M:Nat→Prop}{A:World}{l:Nat}{o o':Obj}(hn:¬D l)(hl:A.heap[l]?=some o)(hc:o.isCells=false)(hw:o.isWalk=false):KpM D M A (A.putObj l o'):=by
  have hg:=grownBy_putObj' A l o'
  refine⟨hg.os,hg.tape,hg.output,hg.size,fun k hk=>World.putObj_heap_other (fun e=>hn (e▸hk)),fun k p hp hq _=>?_⟩
  by_cases e:k=l
  · subst e
    rw[hl]at hp
    injection hp with hp
    subst hp
    rcases hq with hq|hq
    · rw[hc]at hq; cases hq
    · rw[hw]at hq; cases hq
  · exact(World.putObj_heap_other e).trans hp
theorem KpM.below {D M:Nat→Prop}{A B:World}(hn:∀ k,D k→k<A.heap.size)(h:Below A.heap.size A B):KpM D M A B:=
  ⟨h.os,h.tape,h.output,h.size,fun k hk=>h.block k (hn k hk),fun k o hk _ _=>(h.block k (Array.getElem?_eq_some_iff.1 hk).1).trans hk⟩
theorem KpM.rowD {α:Type}{d:Kd α}{e base:Nat}{ok D M:Nat→Prop}{A B:World}{v:Value}{xs:List α}(h:KpM D M A B)(hR:d.R e A base ok v xs)(hok:∀ k,ok k→D k):d.R e B base ok v xs:=Kd.R_move hR fun k hk=>h.lo k (hok k hk)
def SeqM {α:Type}(D:Nat→Prop)(P:Program)(g:Nat)(lb:Array Value)(encs:α→Array Value)(S Sp:List α→Prop)(Px:α→World→Prop)(N:Nat)(w:World):Prop:=
  ∀ (lp:Nat) (J:List α→(Nat→Prop)→World→Prop) (Jx:List α→World→Prop) (M0:Nat→Prop) (W:World),Below w.heap.size w W→(∀ M,AbidesFrom W.heap.size (fun s W'=>J s M W'))→AbidesFrom W.heap.size Jx→
    (∀ pre M W1,J pre M W1→∀ k,M k→¬D k∧k<W1.heap.size)→
    (∀ pre M x W1,J pre M W1→Px x W1→pre.length<N→YieldAt Fence.wide 1 P lp (encs x) W1 fun e W'=>
      (e=.returned (.bool true)∧∃ M',J (pre++[x]) M' W'∧KpM D M W1 W'∧(∀ k,M' k→M k∨W1.heap.size≤k))∨(e=.returned (.bool false)∧Jx (pre++[x]) W'))→
    J [] M0 W→
    CallsIn Fence.wide 2 P g (#[.func (.yield lp) #[] #[]]++lb) W fun e W'=>(∃ v,e=.returned v)∧((∃ xs M,S xs∧J xs M W')∨(∃ pre,Sp pre∧Jx pre W'))
def headM {α ι:Type}(D:Nat→Prop)(B:Nat)(I:List α→(Nat→Prop)→World→Prop)(Ax:α→ι→World→Prop)(lx:α→ι→Slots)(pre:List α)(M:Nat→Prop)(x:α)(W:World):QS
  | .normal,l',W'=>∃ i,keep l' ((lx x i).map (·.1))=lx x i∧KeepsFrom B W W'∧KpM D M W W'∧I pre M W'∧Ax x i W'
  | _,_,_=>False
def bodyM {α:Type}(D:Nat→Prop)(B:Nat)(I:List α→(Nat→Prop)→World→Prop)(Ix:Code→List α→World→Prop)(xs:List α)(M:Nat→Prop)(W:World):QS
  | .normal,_,W'=>KeepsFrom B W W'∧∃ M',KpM D M W W'∧(∀ k,M' k→M k∨W.heap.size≤k)∧I xs M' W'
  | .ret,_,W'=>KeepsFrom B W W'∧Ix .ret xs W'
  | .exit id,_,W'=>KeepsFrom B W W'∧Ix (.exit id) xs W'
  | _,_,_=>False
theorem X_rangeM {α ι:Type}{P:Program}{N:Nat}{qs:QS}{l:Slots}{w:World}{g:Operand}{ps:Array Tmp}{asg body:Code}{gf:Nat}{lb:Array Value}(hg:ev l g=some (.func (.func gf) #[] lb))(en:Ent P gf)
    {encs:α→Array Value} {S Sp:List α→Prop} {Px:α→World→Prop} {Q:Nat} {w0:World} {Dt:Nat→Prop} (hseq:SeqM Dt P gf lb encs S Sp Px Q w0) (hb0:Below w0.heap.size w0 w) (hDt:∀ k,Dt k→k<w.heap.size)
    (hps:∀ x,(encs x).size=ps.size) (hpn:(ps.toList.all fun p=>Nat.blt p N)=true)
    (I:List α→(Nat→Prop)→World→Prop) (Ix:Code→List α→World→Prop) (hI:∀ M,OwnFrom w.heap.size (fun s W=>I s M W)) (hIx:∀ c,OwnFrom w.heap.size (Ix c)) (hIM:∀ pre M W,I pre M W→∀ k,M k→¬Dt k∧k<W.heap.size) (M0:Nat→Prop) (h0:I [] M0 w)
    (Ax:α→ι→World→Prop) (hAx:∀ i,OwnFrom w.heap.size (fun x W=>Ax x i W)) (lx:α→ι→Slots)
    (hassign:∀ (lp:Nat) (pre:List α) (M:Nat→Prop) (x:α) (W:World),w.heap.size≤lp→w.heap.size≤W.heap.size→I pre M W→Px x W→pre.length<Q→XI (some lp) P N asg (headM Dt w.heap.size I Ax lx pre M x W) (bindS (ps.toList.zip (encs x).toList) (noD l)) W)
    (hbody:∀ (lp:Nat) (pre:List α) (M:Nat→Prop) (x:α) (i:ι) (W:World),w.heap.size≤lp→w.heap.size≤W.heap.size→I pre M W→Ax x i W→pre.length<Q→XI (some lp) P N body (bodyM Dt w.heap.size I Ix (pre++[x]) M W) (lx x i) W)
    (hdone:∀ (D:Nat) (xs:List α) (M:Nat→Prop) (W:World),w.heap.size≤D→S xs→I xs M W→W.heap[D]?=some (.deferred (some []))→qs .normal (addD D l) W)
    (hstop:∀ (D:Nat) (c:Code) (pre:List α) (W:World),w.heap.size≤D→Sp pre→Ix c pre W→W.heap[D]?=some (.deferred (some []))→X P N c qs (addD D l) W):
    X P N (.rangeFunc g ps asg body) qs l w:=by
  intro a ha
  refine(wpIn_wide (n:=3)).1 (wpIn_rangeFunc ?_)
  intro fn hfn
  rw[show Fence.wide.round=none from rfl]
  obtain⟨rec,hrec⟩:∃ rec:LoopState→Option Code→Loop,rec=fun st pe=>{ state:=st,pending:=pe,fn,tmps:=a.tmps,params:=ps,assign:=asg,body,defers:=w.heap.size }:=⟨_,rfl⟩
  obtain⟨W1,hW1⟩:∃ W1,(w.alloc (.deferred (some []))).alloc (.loop (rec .ready none))=W1:=⟨_,rfl⟩
  have hL1:W1.heap[w.heap.size+1]?=some (.loop (rec .ready none)):=by
    rw[←hW1]; have:=World.alloc_heap_new (w.alloc (.deferred (some []))) (.loop (rec .ready none)); rwa [World.size_alloc]at this
  have hK1:W1.heap[w.heap.size]?=some (.deferred (some [])):=by
    rw[←hW1]; exact(Below.heap_alloc _ _ _ (by simp)).trans (World.alloc_heap_new w _)
  have hI1:I [] M0 W1:=by rw[←hW1]; exact(hI M0).alloc _ ((hI M0).alloc _ h0)
  have hb1:Below w0.heap.size w0 W1:=by
    rw[←hW1]; exact hb0.trans ((((Below.refl _ w).alloc (Nat.le_refl _) _).alloc (by simp) _).mono hb0.size)
  refine⟨w.heap.size+1,[{ target:=.collected w.heap.size,args:=#[] }],W1,{ target:=.fn (.func gf) lb,args:=#[.func (.yield (w.heap.size+1)) #[] #[]] },W1,gf,
    #[.func (.yield (w.heap.size+1)) #[] #[]]++lb,W1,?_,?_,?_,?_,fun _=>by omega,?_⟩
  · rw[←hW1,hrec]; exact run_enterLoop_outer _ _ _ _ _
  · simp only[resolve,ev_ok ha hg]
    simp[go_sem]
  · intro f' hf'; trivial
  · have:=en (#[.func (.yield (w.heap.size+1)) #[] #[]]++lb) W1
    simp[invoke,go_sem,this]
  · have hnw:∀ {A B:World} {row:Option Nat},(∀ r,row=some r→W1.heap.size≤r∧∃ o:Obj,A.heap[r]?=some o∧o.isWalk=true)→(∀ r,row=some r→w.heap.size≤r∧∃ o:Obj,A.heap[r]?=some o∧o.isCells=false):=
      fun hr r e=>by obtain⟨hB,o,ho,hw⟩:=hr r e; exact⟨by rw[←hW1]at hB; simp at hB; omega,o,ho,Obj.not_cells_of_walk hw⟩
    refine(hseq (w.heap.size+1)
      (fun pre M W=>I pre M W∧W.heap[w.heap.size+1]?=some (.loop (rec .ready none))∧W.heap[w.heap.size]?=some (.deferred (some [])))
      (fun pre W=>∃ c,Ix c pre W∧W.heap[w.heap.size+1]?=some (.loop (rec .done (some c)))∧W.heap[w.heap.size]?=some (.deferred (some [])))
      M0 W1 hb1
      (fun M s A B row hs hg' hr=>⟨hI M s A B row hs.1 hg' (hnw (B:=B) hr),(grownBy_keeps hg' (fun r e=>(hr r e).2) hs.2.1 rfl).trans hs.2.1,(grownBy_keeps hg' (fun r e=>(hr r e).2) hs.2.2 rfl).trans hs.2.2⟩)
      (fun s A B row hs hg' hr=>by
        obtain⟨c,hc,hl,hk⟩:=hs
        exact⟨c,hIx c s A B row hc hg' (hnw (B:=B) hr),(grownBy_keeps hg' (fun r e=>(hr r e).2) hl rfl).trans hl,(grownBy_keeps hg' (fun r e=>(hr r e).2) hk rfl).trans hk⟩)
      (fun pre M W1 h=>hIM pre M W1 h.1) ?_ ⟨hI1,hL1,hK1⟩).mono ?_
    · rintro pre M x W ⟨hi,hl,hk⟩ hpx hlen
      have hlt:w.heap.size+1<W.heap.size:=(Array.getElem?_eq_some_iff.1 hl).1
      have hy:=run_yield (P:=P) (args:=encs x) hl (by rw[hrec]; exact hps x)
      rw[hrec]at hy
      have h1:=ha.noD
      have h2:=fr_bind (ps.toList.zip (encs x).toList) _ _ h1 (by
        refine List.all_eq_true.2 fun p hp=>?_
        exact List.all_eq_true.1 hpn _ (List.of_mem_zip hp).1)
      have h4:(ps.zip (encs x)).foldl (fun t (p,v)=>t.setIfInBounds p v) a.tmps=(ps.toList.zip (encs x).toList).foldl (fun t p=>t.setIfInBounds p.1 p.2) a.tmps:=by
        rw[←Array.foldl_toList,Array.toList_zip]
      refine⟨fn,_,asg,body,hy,roundIn_of_wpIn hfn ?_⟩
      rw[h4]
      refine wpIn_mono (hassign (w.heap.size+1) pre M x W (by omega) (by omega) hi hpx hlen _ _ h2) ?_
      rintro e a' W' ⟨l',hl',hq⟩
      cases e with
      | normal=>
        obtain⟨ix,hkx,hkp0,hkq0,hi',hax⟩:=hq
        have hlr:=hkp0.same _ _ (by omega) hl rfl
        have hkr:=hkp0.same _ _ (Nat.le_refl _) hk rfl
        have hlt':w.heap.size+1<W'.heap.size:=(Array.getElem?_eq_some_iff.1 hlr).1
        refine⟨_,run_beginRound hlr (by rw[hrec]),?_⟩
        have hl2:(W'.putObj (w.heap.size+1) (.loop { rec .ready none with state:=.busy })).heap[w.heap.size+1]?=some (.loop { rec .ready none with state:=.busy }):=World.putObj_heap_same hlt'
        have hk2:(W'.putObj (w.heap.size+1) (.loop { rec .ready none with state:=.busy })).heap[w.heap.size]?=some (.deferred (some [])):=(World.putObj_heap_other (by omega)).trans hkr
        have hb0s:=hb0.size
        have hw2:KpM Dt M W' (W'.putObj (w.heap.size+1) (.loop { rec .ready none with state:=.busy })):=KpM.putObj (fun h_=>by have:=hDt _ h_; omega) hlr rfl rfl
        refine wpIn_mono (hbody (w.heap.size+1) pre M x ix _ (by omega) (Nat.le_trans (by omega) hw2.size) ((hI M).putObj _ hi' (by omega) hlr rfl) ((hAx ix).putObj _ hax (by omega) hlr rfl) hlen _ a' (by rw[←hkx]; exact hl'.keep _)) ?_
        have fin:∀ (jump:Option Code) (W3:World),KeepsFrom w.heap.size (W'.putObj (w.heap.size+1) (.loop { rec .ready none with state:=.busy })) W3→
            (Instr.endRound (w.heap.size+1) jump).run P W3=.ok (.bool jump.isNone) (W3.putObj (w.heap.size+1) (.loop (rec (if jump.isNone then .ready else .done) jump)))∧
            W3.heap[w.heap.size+1]?=some (.loop { rec .ready none with state:=.busy })∧
            (W3.putObj (w.heap.size+1) (.loop (rec (if jump.isNone then .ready else .done) jump))).heap[w.heap.size+1]?=some (.loop (rec (if jump.isNone then .ready else .done) jump))∧
            (W3.putObj (w.heap.size+1) (.loop (rec (if jump.isNone then .ready else .done) jump))).heap[w.heap.size]?=some (.deferred (some [])):=fun jump W3 hk3=>by
          have hl3:=hk3.same _ _ (by omega) hl2 rfl
          have:=run_endRound (P:=P) jump hl3
          rw[hrec]at this ⊢
          exact⟨this,by rw[hrec]at hl3; exact hl3,World.putObj_heap_same (Array.getElem?_eq_some_iff.1 hl3).1,(World.putObj_heap_other (by omega)).trans (hk3.same _ _ (Nat.le_refl _) hk2 rfl)⟩
        rintro e a3 W3 ⟨l3,hl3',hp⟩
        cases e with
        | normal=>
          obtain⟨hk3,M3,hkp3,hM3,hi3⟩:=hp
          obtain⟨hr,hl3,hl4,hk4⟩:=fin none W3 hk3
          exact⟨_,_,hr,.inl ⟨rfl,M3,⟨(hI M3).putObj _ hi3 (by omega) hl3 rfl,hl4,hk4⟩,hkq0.trans ((hw2.trans hkp3).trans (KpM.putObj (fun h_=>by have:=hDt _ h_; omega) hl3 rfl rfl)),fun k hk=>(hM3 k hk).imp id fun h=>Nat.le_trans hkq0.size (Nat.le_trans hw2.size h)⟩⟩
        | ret=>
          obtain⟨hk3,hi3⟩:=hp
          obtain⟨hr,hl3,hl4,hk4⟩:=fin (some .ret) W3 hk3
          exact⟨_,_,hr,.inr ⟨rfl,.ret,(hIx _).putObj _ hi3 (by omega) hl3 rfl,hl4,hk4⟩⟩
        | exit id=>
          obtain⟨hk3,hi3⟩:=hp
          obtain⟨hr,hl3,hl4,hk4⟩:=fin (some (.exit id)) W3 hk3
          exact⟨_,_,hr,.inr ⟨rfl,.exit id,(hIx _).putObj _ hi3 (by omega) hl3 rfl,hl4,hk4⟩⟩
        | _=>exact hp.elim
      | _=>exact hq.elim
    · rintro e W2 ⟨⟨v,rfl⟩,(⟨xs,M,hS,hi,hl,hk⟩|⟨pre,hSp,c,hi,hl,hk⟩)⟩
      · exact⟨none,_,by have:=run_endLoop (P:=P) hl (by rw[hrec]; simp); rw[hrec]at this; exact this,_,ha.addD _,hdone _ xs M _ (Nat.le_refl _) hS ((hI M).putObj _ hi (by omega) hl rfl) ((World.putObj_heap_other (by omega)).trans hk)⟩
      · exact⟨some c,_,by have:=run_endLoop (P:=P) hl (by rw[hrec]; simp); rw[hrec]at this; exact this,wpIn_wide.2 (hstop _ c pre _ (Nat.le_refl _) hSp ((hIx c).putObj _ hi (by omega) hl rfl) ((World.putObj_heap_other (by omega)).trans hk) _ (ha.addD _))⟩
end Go.Proofs.YtlnnjfdonilgmaaGreatDoor.RX
set_option linter.unusedVariables false
set_option linter.unusedSimpArgs false
namespace Go.Proofs.YtlnnjfdonilgmaaGreatDoor
open Go Go.RowKit Go.Proofs.YtlnnjfdonilgmaaGreatDoorW.PrintWords RX
def DI (n lo hi:Nat):Nat→Prop:=fun k=>k<n∨(lo≤k∧k<hi)
theorem take_snocM {ms:List MarkA}{i:Nat}(h:i<ms.length):ms.take i++[ms.getD i mark0]=ms.take (i+1):=by
  rw[List.take_add_one,List.getElem?_eq_getElem h,List.getD_eq_getElem?_getD,List.getElem?_eq_getElem h]; rfl
end Go.Proofs.YtlnnjfdonilgmaaGreatDoor

set_option linter.unusedVariables false
set_option linter.unusedSimpArgs false
namespace Go.Proofs.YtlnnjfdonilgmaaGreatDoor.RX
open Go Go.RowKit Go.Proofs.YtlnnjfdonilgmaaGreatDoorW.PrintWords

theorem Kd.R_raw2 {α:Type}{d:Kd α}(z:α){e:Nat}{w:World}{base:Nat}{ok:Nat→Prop}{A:Option Addr}{n c:Nat}{xs:List α}(h:d.R e w base ok (.slice A n c) xs):∃ vs,(kRaw d.sz).R e w base ok (.slice A n c) vs∧vs.length=xs.length∧∀ i,i<xs.length→d.M w base (fun k=>ok k∧some k≠A.map (·.block)) (xs.getD i z) (vs.getD i []):=by
  obtain⟨h0,inner,ho,hr⟩:=h
  have hd:∀ i,i<xs.length→d.M w base (fun k=>ok k∧some k≠A.map (·.block)) (xs.getD i z) ((inner.drop (i*d.sz)).take d.sz):=by
    intro i hi
    have:=hr.2 i _ (List.getElem?_eq_getElem hi)
    rw[List.getD_eq_getElem?_getD,List.getElem?_eq_getElem hi]
    rw[ownB]at this
    exact this
  have hg:∀ i,i<xs.length→((List.range xs.length).map fun i=>(inner.drop (i*d.sz)).take d.sz).getD i []=(inner.drop (i*d.sz)).take d.sz:=by
    intro i hi
    rw[List.getD_eq_getElem?_getD,List.getElem?_map,List.getElem?_range hi]; rfl
  refine⟨(List.range xs.length).map fun i=>(inner.drop (i*d.sz)).take d.sz,⟨h0,inner,by rw[List.length_map,List.length_range]; exact ho,?_,fun j p hj=>?_⟩,by simp,fun i hi=>?_⟩
  · rw[List.length_map,List.length_range]; exact hr.1
  · have hj1:=(List.getElem?_eq_some_iff.1 hj).1
    rw[List.length_map,List.length_range]at hj1
    rw[List.getElem?_map,List.getElem?_range hj1]at hj
    injection hj with hj
    subst hj
    have hM:=hd j hj1
    exact⟨rfl,d.K_len (d.K_of_M hM),d.K_one (d.K_of_M hM)⟩
  · rw[hg i hi]; exact hd i hi
theorem Kd.R_ofRaw {α:Type}{d:Kd α}(z:α){e:Nat}{w:World}{base:Nat}{ok:Nat→Prop}{A:Option Addr}{n c:Nat}{xs:List α}{vs:List (List Value)}(h:(kRaw d.sz).R e w base ok (.slice A n c) vs)(hl:vs.length=xs.length)(hM:∀ i,i<xs.length→d.M w base (fun k=>ok k∧some k≠A.map (·.block)) (xs.getD i z) (vs.getD i [])):d.R e w base ok (.slice A n c) xs:=by
  obtain⟨h0,inner,ho,hr⟩:=h
  refine⟨h0,inner,by rw[←hl]; exact ho,by rw[←hl]; exact hr.1,fun i p hp=>?_⟩
  have hi:=(List.getElem?_eq_some_iff.1 hp).1
  have hv:=hr.2 i (vs.getD i []) (by rw[List.getD_eq_getElem?_getD,List.getElem?_eq_getElem (by omega)]; rfl)
  have:=hM i hi
  rw[show xs.getD i z=p from by rw[List.getD_eq_getElem?_getD,hp]; rfl]at this
  rw[ownB]
  have e1:(inner.drop (i*d.sz)).take d.sz=vs.getD i []:=hv.1
  rw[e1]
  exact this
theorem Kd.R_at {α:Type}{d:Kd α}(z:α){e:Nat}{w:World}{base:Nat}{ok:Nat→Prop}{A:Option Addr}{n c:Nat}{xs:List α}(h:d.R e w base ok (.slice A n c) xs){i:Int}(h0:0≤i)(h1:i<n):∃ ad cs,A=some ad∧d.M w base (fun k=>ok k∧some k≠A.map (·.block)) (xs.getD i.toNat z) cs∧CellsAt w (ad.add (i.toNat*d.sz)) cs:=by
  obtain⟨vs,hR,hl,hM⟩:=Kd.R_raw2 z h
  obtain⟨ad,cc,hA,hK,hc⟩:=Kd.atC (Kd.R_C hR) [] h0 h1
  have hn:=(Kd.R_len hR).1
  refine⟨ad,cc,hA,?_,hc⟩
  rw[show cc=vs.getD i.toNat []from hK.1]
  exact hM _ (by omega)
section
variable {P : Program} {N : Nat} {ops : Array Oper} {qs : QS} {rest : List Oper} {o : Oper} {l : Slots} {α : Type}
end

structure Two (g:Nat) (r:Option Nat) (w w':World):Prop where
  os:w'.os=w.os
  tape:w'.tape=w.tape
  output:w'.output=w.output
  size:w.heap.size≤w'.heap.size
  block:∀ k,k<w.heap.size→k≠g→r≠some k→w'.heap[k]?=w.heap[k]?
theorem Two.refl (g:Nat)(r:Option Nat)(w:World):Two g r w w:=⟨rfl,rfl,rfl,Nat.le_refl _,fun _ _ _ _=>rfl⟩
theorem Two.below {g:Nat}{r:Option Nat}{a b c:World}(h:Two g r a b)(k:Below b.heap.size b c):Two g r a c:=
  ⟨k.os.trans h.os,k.tape.trans h.tape,k.output.trans h.output,Nat.le_trans h.size k.size,fun x hx h1 h2=>(k.block x (Nat.lt_of_lt_of_le hx h.size)).trans (h.block x hx h1 h2)⟩
theorem Two.grown {g:Nat}{r s:Option Nat}{a b c:World}(h:Two g r a b)(k:b.grownBy c s)(hs:∀ x,s=some x→x=g∨r=some x∨a.heap.size≤x):Two g r a c:=
  ⟨k.os.trans h.os,k.tape.trans h.tape,k.output.trans h.output,Nat.le_trans h.size k.size,fun x hx h1 h2=>(k.block x (Nat.lt_of_lt_of_le hx h.size) (fun e=>by
    rcases hs x e.symm with h3|h3|h3
    · exact h1 h3
    · exact h2 h3
    · omega)).trans (h.block x hx h1 h2)⟩
theorem Two.store {g:Nat}{r:Option Nat}{a b c:World}(h:Two g r a b)(k:b.grownBy c (some g)):Two g r a c:=h.grown k fun x e=>.inl (by injection e with e; exact e.symm)
theorem Two.row {g:Nat}{r:Option Nat}{a b c:World}(h:Two g r a b){A:Option Addr}(k:b.grownBy c (A.map (·.block)))(hA:A.map (·.block)=r∨∃ b,A.map (·.block)=some b∧a.heap.size≤b):Two g r a c:=h.grown k fun x e=>by
  rcases hA with h1|⟨b,h1,h2⟩
  · exact .inr (.inl (by rw[←h1,e]))
  · rw[h1]at e; injection e with e; subst e; exact .inr (.inr h2)
theorem Two.toGrown {g:Nat}{w w':World}(h:Two g none w w'):w.grownBy w' (some g):=⟨h.os,h.tape,h.output,h.size,fun k hk hne=>h.block k hk (fun e=>hne (by rw[e])) (fun e=>by cases e)⟩
theorem Two.belowB {g B:Nat}{r:Option Nat}{a b:World}(h:Two g r a b)(hg:B≤g)(hr:∀ x,r=some x→B≤x)(hB:B≤a.heap.size):Below B a b:=
  ⟨h.os,h.tape,h.output,h.size,fun k hk=>h.block k (by omega) (by omega) (fun e=>by have:=hr k e; omega)⟩
theorem Kd.R_blk_ne {α:Type}{d:Kd α}{e g t:Nat}{w:World}{base:Nat}{ok:Nat→Prop}{A:Option Addr}{n c:Nat}{xs:List α}{cs:Array Value}(h:d.R e w base ok (.slice A n c) xs)(hb:Blk w g t cs)(hne:Nat.beq t e=false):∀ k,A.map (·.block)=some k→k≠g:=fun k hk e1=>by
  subst e1
  obtain⟨_,inner,hown,_⟩:=h
  obtain⟨cells,hc⟩:=own_typed hown k (by rw[ownB]; exact hk)
  rw[show w.heap[k]?=some (.cells cs t (0,0))from hb]at hc
  injection hc with hc
  injection hc with _ e2
  subst e2
  rw[Nat.beq_refl]at hne
  cases hne
theorem Blk.tne {w:World}{g g' t t':Nat}{cs cs':Array Value}(h:Blk w g t cs)(h':Blk w g' t' cs')(hne:Nat.beq t t'=false):g≠g':=fun e=>by
  subst e
  have h':w.heap[g]?=some (.cells cs' t' (0,0)):=h'
  rw[show w.heap[g]?=some (.cells cs t (0,0))from h]at h'
  injection h' with h'
  injection h' with _ e2
  subst e2
  rw[Nat.beq_refl]at hne
  cases hne
theorem atc_new {A A1 A2:Option Addr}{w w1:World}(hw:w.heap.size≤w1.heap.size)(h:A1.map (·.block)=A.map (·.block)∨∃ b,A1.map (·.block)=some b∧w.heap.size≤b)(h2:A2.map (·.block)=A1.map (·.block)∨∃ b,A2.map (·.block)=some b∧w1.heap.size≤b):A2.map (·.block)=A.map (·.block)∨∃ b,A2.map (·.block)=some b∧w.heap.size≤b:=by
  rcases h2 with h2|⟨b,h2,h3⟩
  · rw[h2]; exact h
  · exact .inr ⟨b,h2,by omega⟩
end Go.Proofs.YtlnnjfdonilgmaaGreatDoor.RX
set_option linter.unusedVariables false
set_option linter.unusedSimpArgs false
namespace Go.Proofs.YtlnnjfdonilgmaaGreatDoor.RX
open Go Go.RowKit Go.Proofs.YtlnnjfdonilgmaaGreatDoorW.PrintWords
section
variable {P : Program} {N : Nat} {ops : Array Oper} {qs : QS} {rest : List Oper} {o : Oper} {l : Slots} {α : Type}
theorem XL_makeCap (d:Kd α){w:World}{t:TypeId}{x y:Operand}(ho:o.op=.makeSlice t x y)(hg:gd ops l o=some true)(hd:okD N o.dst=true)(e:Nat)(z:Value)(bytes:Nat)(m:Int)
    (hv:evs l [x,y]=some [.int .i64 0,.int .i64 m]) (ht:P.underlying t=some (.slice e)) (hinfo:(P.info? e).map (fun i=>(i.zero,i.size,i.bytes))=some (some z,d.sz,bytes)) (hz:z.cells.size=d.sz) (hs0:0<d.sz) (hb0:0<bytes)
    (z0:α) (hzero:d.M w w.heap.size (fun _=>False) z0 z.cells.toList) (h0:0≤m) (hl:m.toNat*bytes≤281474976710656)
    (hn:∀ A c w1,d.R e w1 w.heap.size (OkFrom w.heap.size) (.slice A 0 c) []→m.toNat≤c→Below w.heap.size w w1→XL P N ops rest qs (putS l o.dst (.slice A 0 c)) w1):XL P N ops (o::rest) qs l w:=by
  obtain⟨m,rfl⟩:=Int.eq_ofNat_of_zero_le h0
  simp only[Int.toNat_natCast]at hl hn
  obtain⟨i0,hi,hzz⟩:=Option.map_eq_some_iff.1 hinfo
  simp only[Prod.mk.injEq]at hzz
  obtain⟨hz0,hz1,hz2⟩:=hzz
  have hm:m≤281474976710656:=Nat.le_trans (Nat.le_mul_of_pos_right _ hb0) hl
  have hr:=run_make (P:=P) w t e i0 z ht hi hz0 .i64 .i64 0 (m:Int) (by omega) (by omega)
    (by
      have h3:((i0.bytes*m:Nat):Int)≤281474976710656:=by rw[hz2,Nat.mul_comm]; omega
      rwa [Int.natCast_mul]at h3) (by omega)
  simp only[Int.toNat_natCast,Int.toNat_zero]at hr
  rw[hz1]at hr
  obtain⟨w1,hw,hb,hk,hs⟩:=new_world w (madeCells z.cells (m*d.sz)) e
  rw[hw]at hr
  have hR:d.R e w1 w.heap.size (OkFrom w.heap.size) (.slice (some ⟨w.heap.size,0,none⟩) (List.replicate m z0).length (List.replicate m z0).length) (List.replicate m z0):=
    Kd.R_litB d _ hk (Kd.reps_made hz hs0 (Kd.M_below hzero hb) m) (by rw[List.length_replicate]; omega)
  rw[List.length_replicate]at hR
  have hR0:=Kd.R_take hR (Nat.zero_le m)
  rw[List.take_zero]at hR0
  refine XL_val hg hd (fun a ha=>?_) (hn _ m w1 hR0 (Nat.le_refl _) hb)
  have he:=evs_ok ha _ _ hv
  simp only[List.map_cons,List.map_nil,List.cons.injEq,and_true]at he
  simp[execOp,ho,he.1,he.2,hr]
end
end Go.Proofs.YtlnnjfdonilgmaaGreatDoor.RX
namespace Go.Proofs.YtlnnjfdonilgmaaGreatDoor
open Go Go.RowKit Go.Proofs.YtlnnjfdonilgmaaGreatDoorW.PrintWords RX
theorem kPiece_insM {w:World}{base:Nat}{ok:Nat→Prop}{a:List At}{t:ByteArray}{n:Int}{cs:List Value}(h:kPiece.M w base ok (.ins a t n) cs):∃ A c,cs=[.iface 153 (.agg #[.slice A a.length c,.string t,.int .i64 n])]∧a.length≤c∧kAttr.R 148 w base ok (.slice A a.length c) a:=by
  obtain⟨_,⟨_,_,rfl,⟨v,rfl,hR⟩,_,_,rfl,rfl,rfl⟩,rfl⟩:=h
  obtain⟨A,c,rfl,hl,_⟩:=Kd.R_reads hR
  exact⟨A,c,rfl,hl,hR⟩
theorem kPiece_embM {w:World}{base:Nat}{ok:Nat→Prop}{a:List At}{k:ByteArray}{v:Int×Int×ByteArray}{cs:List Value}(h:kPiece.M w base ok (.emb a k v) cs):∃ A c,cs=[.iface 157 (.agg #[.slice A a.length c,.string k,valV v])]∧a.length≤c∧kAttr.R 148 w base ok (.slice A a.length c) a:=by
  obtain⟨_,⟨_,_,rfl,⟨v,rfl,hR⟩,_,_,rfl,rfl,rfl⟩,rfl⟩:=h
  obtain⟨A,c,rfl,hl,_⟩:=Kd.R_reads hR
  exact⟨A,c,rfl,hl,hR⟩
theorem kPiece_retM {w:World}{base:Nat}{ok:Nat→Prop}{a:List At}{n:Int}{cs:List Value}(h:kPiece.M w base ok (.ret a n) cs):∃ A c,cs=[.iface 131 (.agg #[.slice A a.length c,.int .i64 n])]∧a.length≤c∧kAttr.R 148 w base ok (.slice A a.length c) a:=by
  obtain⟨_,⟨_,_,rfl,⟨v,rfl,hR⟩,rfl⟩,rfl⟩:=h
  obtain⟨A,c,rfl,hl,_⟩:=Kd.R_reads hR
  exact⟨A,c,rfl,hl,hR⟩
end Go.Proofs.YtlnnjfdonilgmaaGreatDoor
