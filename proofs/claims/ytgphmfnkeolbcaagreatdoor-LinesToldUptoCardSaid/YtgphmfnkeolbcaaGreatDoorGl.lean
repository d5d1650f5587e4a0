import Derived.Test.YtgphmfnkeolbcaaGreatDoorIn
/- Iterators: what they go over as a list; marks; what lies below a bound stays. No condition. -/

set_option linter.unusedVariables false
set_option linter.unusedSimpArgs false
namespace Go.Proofs.YtgphmfnkeolbcaaGreatDoor
open Go Go.RowKit Go.Proofs.YtgphmfnkeolbcaaGreatDoorW.PrintWords RX
namespace RX
theorem Fr.mark {N:Nat}{l:Slots}{a:Act}(h0:lookS l dk=none)(h:Fr N l a):Fr N ((dk,encD [])::l) a:=
  ⟨h.size,h.lt,by
    have e1:=h.defers
    have e2:dsOf l=[]:=by unfold dsOf; rw[h0]
    have e3:dsOf ((dk,encD [])::l)=[]:=by unfold dsOf; rw[lookS_eq]; rfl
    rw[e1,e2,e3],fun i v hv=>by
    obtain⟨hi,hv⟩:=look_some hv
    rw[lookS_ne hi]at hv
    exact h.at_ i v (by rw[look_of hi]; exact hv)⟩
theorem dsOf_enc {l:Slots}{ds:List Nat}(h:lookS l dk=some (encD ds)):dsOf l=ds.map mkD:=by unfold dsOf; rw[h]; exact decD_enc ds
theorem X_mark0 {P:Program}{N:Nat}{c:Code}{qs:QS}{l:Slots}{w:World}(h0:lookS l dk=none)(h:X P N c qs ((dk,encD [])::l) w):X P N c qs l w:=fun a ha=>h a (ha.mark h0)
end RX
theorem bel_lo2 {n m:Nat}{a b:World}(h:Below n a b)(hn:m≤n):Below m a b:=⟨h.os,h.tape,h.output,h.size,fun k hk=>h.block k (Nat.lt_of_lt_of_le hk hn)⟩
theorem abides_below {β:Type}{B:Nat}{J:β→World→Prop}(h:AbidesFrom B J){s:β}{W W':World}(hb:Below W.heap.size W W')(hj:J s W):J s W':=h s W W' none hj (grown_of_below hb none) (fun r e=>by cases e)
section
variable {α : Type} {m : Nat} {f : Nat → α} {pre : List α} {x : α}
end
end Go.Proofs.YtgphmfnkeolbcaaGreatDoor

set_option linter.unusedVariables false
set_option linter.unusedSimpArgs false
namespace Go.Proofs.YtgphmfnkeolbcaaGreatDoor.RX
open Go Go.RowKit Go.Proofs.YtgphmfnkeolbcaaGreatDoorW.PrintWords
structure KpM (D M:Nat→Prop) (A B:World):Prop where
  os:B.os=A.os
  tape:B.tape=A.tape
  output:B.output=A.output
  size:A.heap.size≤B.heap.size
  lo:∀ k,D k→B.heap[k]?=A.heap[k]?
  k:∀ k o,A.heap[k]?=some o→(o.isCells=true∨o.isWalk=true)→¬M k→B.heap[k]?=some o
theorem KpM.refl (D M:Nat→Prop)(A:World):KpM D M A A:=⟨rfl,rfl,rfl,Nat.le_refl _,fun _ _=>rfl,fun _ _ h _ _=>h⟩
theorem KpM.trans {D M:Nat→Prop}{A B C:World}(h:KpM D M A B)(g:KpM D M B C):KpM D M A C:=
  ⟨g.os.trans h.os,g.tape.trans h.tape,g.output.trans h.output,Nat.le_trans h.size g.size,fun k hk=>(g.lo k hk).trans (h.lo k hk),fun k o h1 h2 h3=>g.k k o (h.k k o h1 h2 h3) h2 h3⟩
theorem KpM.putObj {D M:Nat→Prop}{A:World}{l:Nat}{o o':Obj}(hn:¬D l)(hl:A.heap[l]?=some o)(hc:o.isCells=false)(hw:o.isWalk=false):KpM D M A (A.putObj l o'):=by
  have hg:=grownBy_putObj' A l o'
  refine⟨hg.os,hg.tape,hg.output,hg.size,fun k hk=>World.putObj_heap_other (fun e=>hn (e▸hk)),fun k p hp hq _=>?_⟩
  by_cases e:k=l
  · subst e
    rw[hl]at hp
    injection hp with hp
    subst hp
    rcases hq with hq|hq
    · rw[hc]at hq; cases hq
    · rw[hw]at hq; cases hq
  · exact(World.putObj_heap_other e).trans hp
theorem KpM.below {D M:Nat→Prop}{A B:World}(hn:∀ k,D k→k<A.heap.size)(h:Below A.heap.size A B):KpM D M A B:=
  ⟨h.os,h.tape,h.output,h.size,fun k hk=>h.block k (hn k hk),fun k o hk _ _=>(h.block k (Array.getElem?_eq_some_iff.1 hk).1).trans hk⟩
theorem KpM.toBelow {n:Nat}{D M:Nat→Prop}{A B:World}(h:KpM D M A B)(hn:∀ k,k<n→D k):Below n A B:=⟨h.os,h.tape,h.output,h.size,fun k hk=>h.lo k (hn k hk)⟩
theorem KpM.blk {D M:Nat→Prop}{A B:World}(h:KpM D M A B){g t:Nat}{cs:Array Value}(hb:RX.Blk A g t cs)(hn:¬M g):RX.Blk B g t cs:=h.k g _ hb (.inl rfl) hn
theorem KpM.rowD {α:Type}{d:Kd α}{e base:Nat}{ok D M:Nat→Prop}{A B:World}{v:Value}{xs:List α}(h:KpM D M A B)(hR:d.R e A base ok v xs)(hok:∀ k,ok k→D k):d.R e B base ok v xs:=Kd.R_move hR fun k hk=>h.lo k (hok k hk)
theorem KpM.row {α:Type}{d:Kd α}{e base:Nat}{ok D M:Nat→Prop}{A B:World}{v:Value}{xs:List α}(h:KpM D M A B)(hR:d.R e A base ok v xs)(hok:∀ k,ok k→¬M k):d.R e B base ok v xs:=
  Kd.R_mono (Kd.R_move (Kd.R_bound hR) fun k hk=>by
    obtain⟨h1,_,_,q,_,cells,hc⟩:=hk
    exact(h.k k _ hc (.inl rfl) (hok k h1)).trans hc.symm) fun _ hk=>hk.1
theorem new_apart {M M':Nat→Prop}{A:World}{lo hi:Nat}(h:∀ k,M' k→M k∨A.heap.size≤k)(hM:∀ k,M k→k<lo∨hi≤k)(hh:hi≤A.heap.size):∀ k,M' k→k<lo∨hi≤k:=
  fun k hk=>(h k hk).elim (hM k) fun h2=>.inr (Nat.le_trans hh h2)
def SeqM {α:Type}(D:Nat→Prop)(P:Program)(g:Nat)(lb:Array Value)(encs:α→Array Value)(S Sp:List α→Prop)(Px:α→World→Prop)(N:Nat)(w:World):Prop:=
  ∀ (lp:Nat) (J:List α→(Nat→Prop)→World→Prop) (Jx:List α→World→Prop) (M0:Nat→Prop) (W:World),Below w.heap.size w W→(∀ M,AbidesFrom W.heap.size (fun s W'=>J s M W'))→AbidesFrom W.heap.size Jx→
    (∀ pre M W1,J pre M W1→∀ k,M k→¬D k∧k<W1.heap.size)→
    (∀ pre M x W1,J pre M W1→Px x W1→pre.length<N→YieldAt Fence.wide 1 P lp (encs x) W1 fun e W'=>
      (e=.returned (.bool true)∧∃ M',J (pre++[x]) M' W'∧KpM D M W1 W'∧(∀ k,M' k→M k∨W1.heap.size≤k))∨(e=.returned (.bool false)∧Jx (pre++[x]) W'))→
    J [] M0 W→
    CallsIn Fence.wide 2 P g (#[.func (.yield lp) #[] #[]]++lb) W fun e W'=>(∃ v,e=.returned v)∧((∃ xs M,S xs∧J xs M W')∨(∃ pre,Sp pre∧Jx pre W'))
def headM {α ι:Type}(D:Nat→Prop)(B:Nat)(I:List α→(Nat→Prop)→World→Prop)(Ax:α→ι→World→Prop)(lx:α→ι→Slots)(pre:List α)(M:Nat→Prop)(x:α)(W:World):QS
  | .normal,l',W'=>∃ i,keep l' ((lx x i).map (·.1))=lx x i∧KeepsFrom B W W'∧KpM D M W W'∧I pre M W'∧Ax x i W'
  | _,_,_=>False
def bodyM {α:Type}(D:Nat→Prop)(B:Nat)(I:List α→(Nat→Prop)→World→Prop)(Ix:Code→List α→World→Prop)(xs:List α)(M:Nat→Prop)(W:World):QS
  | .normal,_,W'=>KeepsFrom B W W'∧∃ M',KpM D M W W'∧(∀ k,M' k→M k∨W.heap.size≤k)∧I xs M' W'
  | .ret,_,W'=>KeepsFrom B W W'∧Ix .ret xs W'
  | .exit id,_,W'=>KeepsFrom B W W'∧Ix (.exit id) xs W'
  | _,_,_=>False
theorem X_rangeM {α ι:Type}{P:Program}{N:Nat}{qs:QS}{l:Slots}{w:World}{g:Operand}{ps:Array Tmp}{asg body:Code}{gf:Nat}{lb:Array Value}(hg:ev l g=some (.func (.func gf) #[] lb))(en:Ent P gf)
    {encs:α→Array Value} {S Sp:List α→Prop} {Px:α→World→Prop} {Q:Nat} {w0:World} {Dt:Nat→Prop} (hseq:SeqM Dt P gf lb encs S Sp Px Q w0) (hb0:Below w0.heap.size w0 w) (hDt:∀ k,Dt k→k<w.heap.size)
    (hps:∀ x,(encs x).size=ps.size) (hpn:(ps.toList.all fun p=>Nat.blt p N)=true)
    (I:List α→(Nat→Prop)→World→Prop) (Ix:Code→List α→World→Prop) (hI:∀ M,OwnFrom w.heap.size (fun s W=>I s M W)) (hIx:∀ c,OwnFrom w.heap.size (Ix c)) (hIM:∀ pre M W,I pre M W→∀ k,M k→¬Dt k∧k<W.heap.size) (M0:Nat→Prop) (h0:I [] M0 w)
    (Ax:α→ι→World→Prop) (hAx:∀ i,OwnFrom w.heap.size (fun x W=>Ax x i W)) (lx:α→ι→Slots)
    (hassign:∀ (lp:Nat) (pre:List α) (M:Nat→Prop) (x:α) (W:World),w.heap.size≤lp→w.heap.size≤W.heap.size→I pre M W→Px x W→pre.length<Q→XI (some lp) P N asg (headM Dt w.heap.size I Ax lx pre M x W) (bindS (ps.toList.zip (encs x).toList) (noD l)) W)
    (hbody:∀ (lp:Nat) (pre:List α) (M:Nat→Prop) (x:α) (i:ι) (W:World),w.heap.size≤lp→w.heap.size≤W.heap.size→I pre M W→Ax x i W→pre.length<Q→XI (some lp) P N body (bodyM Dt w.heap.size I Ix (pre++[x]) M W) (lx x i) W)
    (hdone:∀ (D:Nat) (xs:List α) (M:Nat→Prop) (W:World),w.heap.size≤D→S xs→I xs M W→W.heap[D]?=some (.deferred (some []))→qs .normal (addD D l) W)
    (hstop:∀ (D:Nat) (c:Code) (pre:List α) (W:World),w.heap.size≤D→Sp pre→Ix c pre W→W.heap[D]?=some (.deferred (some []))→X P N c qs (addD D l) W):
    X P N (.rangeFunc g ps asg body) qs l w:=by
  intro a ha
  refine(wpIn_wide (n:=3)).1 (wpIn_rangeFunc ?_)
  intro fn hfn
  rw[show Fence.wide.round=none from rfl]
  obtain⟨rec,hrec⟩:∃ rec:LoopState→Option Code→Loop,rec=fun st pe=>{ state:=st,pending:=pe,fn,tmps:=a.tmps,params:=ps,assign:=asg,body,defers:=w.heap.size }:=⟨_,rfl⟩
  obtain⟨W1,hW1⟩:∃ W1,(w.alloc (.deferred (some []))).alloc (.loop (rec .ready none))=W1:=⟨_,rfl⟩
  have hL1:W1.heap[w.heap.size+1]?=some (.loop (rec .ready none)):=by
    rw[←hW1]; have:=World.alloc_heap_new (w.alloc (.deferred (some []))) (.loop (rec .ready none)); rwa [World.size_alloc]at this
  have hK1:W1.heap[w.heap.size]?=some (.deferred (some [])):=by
    rw[←hW1]; exact(Below.heap_alloc _ _ _ (by simp)).trans (World.alloc_heap_new w _)
  have hI1:I [] M0 W1:=by rw[←hW1]; exact(hI M0).alloc _ ((hI M0).alloc _ h0)
  have hb1:Below w0.heap.size w0 W1:=by
    rw[←hW1]; exact hb0.trans ((((Below.refl _ w).alloc (Nat.le_refl _) _).alloc (by simp) _).mono hb0.size)
  refine⟨w.heap.size+1,[{ target:=.collected w.heap.size,args:=#[] }],W1,{ target:=.fn (.func gf) lb,args:=#[.func (.yield (w.heap.size+1)) #[] #[]] },W1,gf,
    #[.func (.yield (w.heap.size+1)) #[] #[]]++lb,W1,?_,?_,?_,?_,fun _=>by omega,?_⟩
  · rw[←hW1,hrec]; exact run_enterLoop_outer _ _ _ _ _
  · simp only[resolve,ev_ok ha hg]
    simp[go_sem]
  · intro f' hf'; trivial
  · have:=en (#[.func (.yield (w.heap.size+1)) #[] #[]]++lb) W1
    simp[invoke,go_sem,this]
  · have hnw:∀ {A B:World} {row:Option Nat},(∀ r,row=some r→W1.heap.size≤r∧∃ o:Obj,A.heap[r]?=some o∧o.isWalk=true)→(∀ r,row=some r→w.heap.size≤r∧∃ o:Obj,A.heap[r]?=some o∧o.isCells=false):=
      fun hr r e=>by obtain⟨hB,o,ho,hw⟩:=hr r e; exact⟨by rw[←hW1]at hB; simp at hB; omega,o,ho,Obj.not_cells_of_walk hw⟩
    refine(hseq (w.heap.size+1)
      (fun pre M W=>I pre M W∧W.heap[w.heap.size+1]?=some (.loop (rec .ready none))∧W.heap[w.heap.size]?=some (.deferred (some [])))
      (fun pre W=>∃ c,Ix c pre W∧W.heap[w.heap.size+1]?=some (.loop (rec .done (some c)))∧W.heap[w.heap.size]?=some (.deferred (some [])))
      M0 W1 hb1
      (fun M s A B row hs hg' hr=>⟨hI M s A B row hs.1 hg' (hnw (B:=B) hr),(grownBy_keeps hg' (fun r e=>(hr r e).2) hs.2.1 rfl).trans hs.2.1,(grownBy_keeps hg' (fun r e=>(hr r e).2) hs.2.2 rfl).trans hs.2.2⟩)
      (fun s A B row hs hg' hr=>by
        obtain⟨c,hc,hl,hk⟩:=hs
        exact⟨c,hIx c s A B row hc hg' (hnw (B:=B) hr),(grownBy_keeps hg' (fun r e=>(hr r e).2) hl rfl).trans hl,(grownBy_keeps hg' (fun r e=>(hr r e).2) hk rfl).trans hk⟩)
      (fun pre M W1 h=>hIM pre M W1 h.1) ?_ ⟨hI1,hL1,hK1⟩).mono ?_
    · rintro pre M x W ⟨hi,hl,hk⟩ hpx hlen
      have hlt:w.heap.size+1<W.heap.size:=(Array.getElem?_eq_some_iff.1 hl).1
      have hy:=run_yield (P:=P) (args:=encs x) hl (by rw[hrec]; exact hps x)
      rw[hrec]at hy
      have h1:=ha.noD
      have h2:=fr_bind (ps.toList.zip (encs x).toList) _ _ h1 (by
        refine List.all_eq_true.2 fun p hp=>?_
        exact List.all_eq_true.1 hpn _ (List.of_mem_zip hp).1)
      have h4:(ps.zip (encs x)).foldl (fun t (p,v)=>t.setIfInBounds p v) a.tmps=(ps.toList.zip (encs x).toList).foldl (fun t p=>t.setIfInBounds p.1 p.2) a.tmps:=by
        rw[←Array.foldl_toList,Array.toList_zip]
      refine⟨fn,_,asg,body,hy,roundIn_of_wpIn hfn ?_⟩
      rw[h4]
      refine wpIn_mono (hassign (w.heap.size+1) pre M x W (by omega) (by omega) hi hpx hlen _ _ h2) ?_
      rintro e a' W' ⟨l',hl',hq⟩
      cases e with
      | normal=>
        obtain⟨ix,hkx,hkp0,hkq0,hi',hax⟩:=hq
        have hlr:=hkp0.same _ _ (by omega) hl rfl
        have hkr:=hkp0.same _ _ (Nat.le_refl _) hk rfl
        have hlt':w.heap.size+1<W'.heap.size:=(Array.getElem?_eq_some_iff.1 hlr).1
        refine⟨_,run_beginRound hlr (by rw[hrec]),?_⟩
        have hl2:(W'.putObj (w.heap.size+1) (.loop { rec .ready none with state:=.busy })).heap[w.heap.size+1]?=some (.loop { rec .ready none with state:=.busy }):=World.putObj_heap_same hlt'
        have hk2:(W'.putObj (w.heap.size+1) (.loop { rec .ready none with state:=.busy })).heap[w.heap.size]?=some (.deferred (some [])):=(World.putObj_heap_other (by omega)).trans hkr
        have hb0s:=hb0.size
        have hw2:KpM Dt M W' (W'.putObj (w.heap.size+1) (.loop { rec .ready none with state:=.busy })):=KpM.putObj (fun h_=>by have:=hDt _ h_; omega) hlr rfl rfl
        refine wpIn_mono (hbody (w.heap.size+1) pre M x ix _ (by omega) (Nat.le_trans (by omega) hw2.size) ((hI M).putObj _ hi' (by omega) hlr rfl) ((hAx ix).putObj _ hax (by omega) hlr rfl) hlen _ a' (by rw[←hkx]; exact hl'.keep _)) ?_
        have fin:∀ (jump:Option Code) (W3:World),KeepsFrom w.heap.size (W'.putObj (w.heap.size+1) (.loop { rec .ready none with state:=.busy })) W3→
            (Instr.endRound (w.heap.size+1) jump).run P W3=.ok (.bool jump.isNone) (W3.putObj (w.heap.size+1) (.loop (rec (if jump.isNone then .ready else .done) jump)))∧
            W3.heap[w.heap.size+1]?=some (.loop { rec .ready none with state:=.busy })∧
            (W3.putObj (w.heap.size+1) (.loop (rec (if jump.isNone then .ready else .done) jump))).heap[w.heap.size+1]?=some (.loop (rec (if jump.isNone then .ready else .done) jump))∧
            (W3.putObj (w.heap.size+1) (.loop (rec (if jump.isNone then .ready else .done) jump))).heap[w.heap.size]?=some (.deferred (some [])):=fun jump W3 hk3=>by
          have hl3:=hk3.same _ _ (by omega) hl2 rfl
          have:=run_endRound (P:=P) jump hl3
          rw[hrec]at this ⊢
          exact⟨this,by rw[hrec]at hl3; exact hl3,World.putObj_heap_same (Array.getElem?_eq_some_iff.1 hl3).1,(World.putObj_heap_other (by omega)).trans (hk3.same _ _ (Nat.le_refl _) hk2 rfl)⟩
        rintro e a3 W3 ⟨l3,hl3',hp⟩
        cases e with
        | normal=>
          obtain⟨hk3,M3,hkp3,hM3,hi3⟩:=hp
          obtain⟨hr,hl3,hl4,hk4⟩:=fin none W3 hk3
          exact⟨_,_,hr,.inl ⟨rfl,M3,⟨(hI M3).putObj _ hi3 (by omega) hl3 rfl,hl4,hk4⟩,hkq0.trans ((hw2.trans hkp3).trans (KpM.putObj (fun h_=>by have:=hDt _ h_; omega) hl3 rfl rfl)),fun k hk=>(hM3 k hk).imp id fun h=>Nat.le_trans hkq0.size (Nat.le_trans hw2.size h)⟩⟩
        | ret=>
          obtain⟨hk3,hi3⟩:=hp
          obtain⟨hr,hl3,hl4,hk4⟩:=fin (some .ret) W3 hk3
          exact⟨_,_,hr,.inr ⟨rfl,.ret,(hIx _).putObj _ hi3 (by omega) hl3 rfl,hl4,hk4⟩⟩
        | exit id=>
          obtain⟨hk3,hi3⟩:=hp
          obtain⟨hr,hl3,hl4,hk4⟩:=fin (some (.exit id)) W3 hk3
          exact⟨_,_,hr,.inr ⟨rfl,.exit id,(hIx _).putObj _ hi3 (by omega) hl3 rfl,hl4,hk4⟩⟩
        | _=>exact hp.elim
      | _=>exact hq.elim
    · rintro e W2 ⟨⟨v,rfl⟩,(⟨xs,M,hS,hi,hl,hk⟩|⟨pre,hSp,c,hi,hl,hk⟩)⟩
      · exact⟨none,_,by have:=run_endLoop (P:=P) hl (by rw[hrec]; simp); rw[hrec]at this; exact this,_,ha.addD _,hdone _ xs M _ (Nat.le_refl _) hS ((hI M).putObj _ hi (by omega) hl rfl) ((World.putObj_heap_other (by omega)).trans hk)⟩
      · exact⟨some c,_,by have:=run_endLoop (P:=P) hl (by rw[hrec]; simp); rw[hrec]at this; exact this,wpIn_wide.2 (hstop _ c pre _ (Nat.le_refl _) hSp ((hIx c).putObj _ hi (by omega) hl rfl) ((World.putObj_heap_other (by omega)).trans hk) _ (ha.addD _))⟩
end Go.Proofs.YtgphmfnkeolbcaaGreatDoor.RX
set_option linter.unusedVariables false
set_option linter.unusedSimpArgs false
namespace Go.Proofs.YtgphmfnkeolbcaaGreatDoor
open Go Go.RowKit Go.Proofs.YtgphmfnkeolbcaaGreatDoorW.PrintWords RX
abbrev ElA :=Int×CellA×Option Addr×Nat
def el0 :ElA:=(0,cell0,none,0)
def elV (x:ElA):Array Value:=#[.int .i64 x.1,.agg #[.int .i32 x.2.1.rune,.string x.2.1.kind,.int .i64 x.2.1.vk,.int .i64 x.2.1.vn,.string x.2.1.vt,.slice x.2.2.1 x.2.1.attrs.length x.2.2.2]]
def ElPx (n0:Nat)(x:ElA)(W:World):Prop:=0≤x.1∧x.2.1.attrs.length≤100000000∧∃ wb:World,n0≤wb.heap.size∧x.2.1.attrs.length≤x.2.2.2∧kAttr.R 57 W wb.heap.size (OkFrom wb.heap.size) (.slice x.2.2.1 x.2.1.attrs.length x.2.2.2) x.2.1.attrs
def EOK (L:List CellA)(pre:List ElA):Prop:=pre.length≤L.length∧∀ t,t<pre.length→(pre.getD t el0).1=(t:Int)∧(pre.getD t el0).2.1=L.getD t cell0
theorem EOK.nil (L:List CellA):EOK L []:=⟨Nat.zero_le _,fun t ht=>by simp at ht⟩
theorem EOK.snoc {L:List CellA}{pre:List ElA}{x:ElA}(h:EOK L pre)(hl:pre.length<L.length)(h1:x.1=(pre.length:Int))(h2:x.2.1=L.getD pre.length cell0):EOK L (pre++[x]):=by
  refine⟨by rw[List.length_append,List.length_singleton]; exact hl,fun t ht=>?_⟩
  rw[List.length_append,List.length_singleton]at ht
  rcases Nat.lt_or_ge t pre.length with h3|h3
  · have e:(pre++[x]).getD t el0=pre.getD t el0:=by rw[List.getD_eq_getElem?_getD,List.getElem?_append_left h3,List.getD_eq_getElem?_getD]
    rw[e]; exact h.2 t h3
  · obtain rfl:t=pre.length:=by omega
    have e:(pre++[x]).getD pre.length el0=x:=by simp[List.getD_eq_getElem?_getD]
    rw[e]; exact⟨h1,h2⟩
theorem EOK.last {L:List CellA}{pre:List ElA}{x:ElA}(h:EOK L (pre++[x])):pre.length<L.length∧x.1=(pre.length:Int)∧x.2.1=L.getD pre.length cell0:=by
  have h1:=h.1
  rw[List.length_append,List.length_singleton]at h1
  have h2:=h.2 pre.length (by simp)
  have e:(pre++[x]).getD pre.length el0=x:=by simp[List.getD_eq_getElem?_getD]
  rw[e]at h2
  exact⟨h1,h2.1,h2.2⟩
def YD (D:Nat→Prop)(P:Program)(lp n0:Nat)(J:List ElA→(Nat→Prop)→World→Prop)(Jx:List ElA→World→Prop)(Q:Nat):Prop:=
  ∀ pre M x W1,J pre M W1→ElPx n0 x W1→pre.length<Q→YieldAt Fence.wide 1 P lp (elV x) W1 fun e W'=>
    (e=.returned (.bool true)∧∃ M',J (pre++[x]) M' W'∧KpM D M W1 W'∧(∀ k,M' k→M k∨W1.heap.size≤k))∨(e=.returned (.bool false)∧Jx (pre++[x]) W')
def ToldR (D:Nat→Prop)(J:List ElA→(Nat→Prop)→World→Prop)(Jx:List ElA→World→Prop)(pre:List ElA)(M:Nat→Prop)(n:Nat)(cl:CellA)(W1:World)(e:Ending)(W':World):Prop:=
  ∃ x:ElA,x.1=(n:Int)∧x.2.1=cl∧((e=.returned (.bool true)∧∃ M',J (pre++[x]) M' W'∧KpM D M W1 W'∧(∀ k,M' k→M k∨W1.heap.size≤k))∨(e=.returned (.bool false)∧Jx (pre++[x]) W'))
theorem cellsAll_le (xs:List OpA)(i:Nat):(cellsAll (xs.take i)).length≤(cellsAll xs).length:=by
  have h:xs.flatMap cellsP=(xs.take i).flatMap cellsP++(xs.drop i).flatMap cellsP:=by rw[←List.flatMap_append,List.take_append_drop]
  unfold cellsAll
  rw[h,List.length_append]
  omega
theorem cellsAll_at {xs:List OpA}{i j n:Nat}(hi:i<xs.length)(hj:j<(cellsP (xs.getD i op0)).length)(hn:n=(cellsAll (xs.take i)).length+j):(cellsP (xs.getD i op0)).getD j cell0=(cellsAll xs).getD n cell0:=by
  subst hn
  have h:xs.flatMap cellsP=(xs.take i).flatMap cellsP++(cellsP (xs.getD i op0)++(xs.drop (i+1)).flatMap cellsP):=by
    have e:xs=xs.take i++(xs.getD i op0::xs.drop (i+1)):=by
      rw[List.getD_eq_getElem?_getD,List.getElem?_eq_getElem hi,Option.getD_some,←List.drop_eq_getElem_cons hi,List.take_append_drop]
    conv=>lhs; rw[e]
    rw[List.flatMap_append,List.flatMap_cons]
  unfold cellsAll
  rw[h]
  generalize cellsP (xs.getD i op0)=u at hj ⊢
  rw[List.getD_eq_getElem?_getD,List.getD_eq_getElem?_getD,List.getElem?_append_right (by omega),Nat.add_sub_cancel_left,List.getElem?_append_left hj]
theorem cellsP_len {o:OpA}(hz:opSz o){j:Nat}(hj:j<(cellsP o).length):((cellsP o).getD j cell0).attrs.length≤100000000:=by
  have hz3:=hz.2.2.1
  by_cases hk:o.kind=2
  · rw[cellsP_2 hk]at hj ⊢
    obtain rfl:j=0:=by simpa using hj
    exact Nat.le_trans hz3 (by decide)
  · unfold cellsP at hj ⊢
    rw[if_neg hk]at hj ⊢
    rw[List.length_map]at hj
    rw[List.getD_eq_getElem?_getD,List.getElem?_map,List.getElem?_eq_getElem hj]
    exact Nat.le_trans hz3 (by decide)
theorem ownFrom_px {B n0:Nat}:OwnFrom B (fun x W=>ElPx n0 x W):=by
  rintro x W W' row ⟨h0,hq,wb,h1,h2,h3⟩ hg hr
  exact⟨h0,hq,wb,h1,h2,RX.ownFrom_R (β:=Unit) (B:=B) kAttr 57 wb.heap.size (fun _=>.slice x.2.2.1 x.2.1.attrs.length x.2.2.2) (fun _=>x.2.1.attrs) () W W' row h3 hg hr⟩
theorem ElPx.below {n0:Nat}{x:ElA}{W W':World}(hb:Below W.heap.size W W')(h:ElPx n0 x W):ElPx n0 x W':=by
  obtain⟨h0,hq,wb,h1,h2,h3⟩:=h
  exact⟨h0,hq,wb,h1,h2,Kd.R_below h3 hb⟩
theorem KpM.grown {D M:Nat→Prop}{A B:World}{row:Option Nat}(hg:A.grownBy B row)(hr:∀ k,row=some k→M k∧¬D k)(hn:∀ k,D k→k<A.heap.size):KpM D M A B:=
  ⟨hg.os,hg.tape,hg.output,hg.size,fun k hk=>hg.block k (hn k hk) fun e=>(hr k e.symm).2 hk,fun k o hk _ hM=>(hg.block k (Array.getElem?_eq_some_iff.1 hk).1 fun e=>hM (hr k e.symm).1).trans hk⟩
theorem keeps_row {α:Type}{d:Kd α}{e B base:Nat}{ok:Nat→Prop}{W W':World}{A:Option Addr}{n c:Nat}{xs:List α}(hR:d.R e W base ok (.slice A n c) xs)(hg:W.grownBy W' (A.map (·.block))):KeepsFrom B W W':=by
  refine⟨hg.size,fun k o _ hk ho=>(hg.block k (Array.getElem?_eq_some_iff.1 hk).1 fun e=>?_).trans hk⟩
  obtain⟨inner,hw⟩:=Kd.R_own hR
  obtain⟨cells,hc⟩:=own_typed hw k (by rw[ownB]; exact e.symm)
  rw[hk]at hc
  injection hc with hc
  subst hc
  cases ho
theorem EOK.all {L:List CellA}{xs:List ElA}(h:EOK L xs)(hl:xs.length=L.length):xs.map (fun x:ElA=>x.2.1)=L:=by
  refine List.ext_getElem (by rw[List.length_map,hl]) fun t h1 h2=>?_
  rw[List.length_map]at h1
  have:=(h.2 t h1).2
  rw[List.getElem_map]
  simpa [List.getD_eq_getElem?_getD,List.getElem?_eq_getElem h1,List.getElem?_eq_getElem h2] using this
def DI (n lo hi:Nat):Nat→Prop:=fun k=>k<n∨(lo≤k∧k<hi)
theorem Off.row {α:Type}{d:Kd α}{e base:Nat}{ok:Nat→Prop}{ds:List Nat}{w w':World}{v:Value}{xs:List α}(h:Off ds w w')(hD:Defs ds w)(hR:d.R e w base ok v xs):d.R e w' base ok v xs:=
  Kd.R_mono (Kd.R_move (Kd.R_bound hR) fun k hk=>by
    obtain⟨_,_,_,q,_,cells,hc⟩:=hk
    exact(RX.Off.blk h hD (show RX.Blk w k q cells from hc)).trans hc.symm) fun _ hk=>hk.1
inductive PEl
  | ins (A:Option Addr) (n c:Nat) (t:ByteArray) (k:Int)
  | emb (A:Option Addr) (n c:Nat) (t:ByteArray) (v:Value)
  | ret (A:Option Addr) (n c:Nat) (k:Int)
  | del (k:Int)
def PEl.val :PEl→Value
  | .ins A n c t k=>.iface 249 (.agg #[.slice A n c,.string t,.int .i64 k])
  | .emb A n c t v=>.iface 253 (.agg #[.slice A n c,.string t,v])
  | .ret A n c k=>.iface 128 (.agg #[.slice A n c,.int .i64 k])
  | .del k=>.iface 133 (.agg #[.int .i64 k])
def PEl.op :PEl→Int×Int
  | .ins _ _ _ _ k=>(1,k)
  | .emb _ _ _ _ _=>(2,1)
  | .ret _ _ _ k=>(3,k)
  | .del k=>(4,k)
noncomputable def pelO (o:OpA):Int×Int:=(o.kind,if o.kind=1 then ((U.sc o.text).length:Int)else if o.kind=2 then 1 else o.count)
theorem pel_of {w:World}{o:OpA}{cs:List Value}(h:kPiece.K w (pOf o) cs)(ho:pErr o=0):∃ x:PEl,cs=[x.val]∧x.op=pelO o:=by
  rcases kind_of_ok ho with hk|hk|hk|hk
  · rw[pOf_ins hk]at h
    obtain⟨A,c,rfl,_⟩:=kPiece_ins h
    exact⟨.ins A o.attrs.length c o.text _,rfl,by unfold PEl.op pelO; rw[hk]; rfl⟩
  · rw[pOf_emb hk]at h
    obtain⟨A,c,rfl,_⟩:=kPiece_emb h
    exact⟨.emb A o.attrs.length c o.text _,rfl,by unfold PEl.op pelO; rw[hk]; rfl⟩
  · rw[pOf_ret hk]at h
    obtain⟨A,c,rfl,_⟩:=kPiece_ret h
    exact⟨.ret A o.attrs.length c o.count,rfl,by unfold PEl.op pelO; rw[hk]; rfl⟩
  · rw[pOf_del hk]at h
    obtain rfl:=kPiece_del h
    exact⟨.del o.count,rfl,by unfold PEl.op pelO; rw[hk]; rfl⟩
def POK (ops:List OpA)(pre:List PEl):Prop:=pre.map PEl.op=(ops.take pre.length).map pelO
theorem POK.snoc {ops:List OpA}{pre:List PEl}{x:PEl}(h:POK ops pre)(hl:pre.length<ops.length)(hx:x.op=pelO (ops.getD pre.length op0)):POK ops (pre++[x]):=by
  unfold POK at h ⊢
  rw[List.map_append,h,List.length_append,List.length_singleton,take_op hl,List.map_append,List.map_cons,List.map_nil,List.map_cons,List.map_nil,hx]
def stepL (s:Int×Int×Int)(p:Int×Int):Int×Int×Int:=
  if p.1=3 then (s.1,IntKind.i64.wrap (s.2.1+p.2),s.2.2)else if p.1=4 then (s.1,s.2.1,IntKind.i64.wrap (s.2.2+p.2))else (IntKind.i64.wrap (s.1+p.2),s.2.1,s.2.2)
def sumL (ps:List (Int×Int)):Int×Int×Int:=ps.foldl stepL (0,0,0)
theorem sumL_snoc (ps:List (Int×Int))(p:Int×Int):sumL (ps++[p])=stepL (sumL ps) p:=by unfold sumL; rw[List.foldl_append]; rfl
def LenI (w:World)(c5 c6 c7:Nat)(pre:List PEl)(M:Nat→Prop)(W:World):Prop:=
  RX.Blk W c5 3 #[.int .i64 (sumL (pre.map PEl.op)).1]∧RX.Blk W c6 3 #[.int .i64 (sumL (pre.map PEl.op)).2.1]∧RX.Blk W c7 3 #[.int .i64 (sumL (pre.map PEl.op)).2.2]∧M=(fun k=>k=c5∨k=c6∨k=c7)∧Below w.heap.size w W
theorem LenI.own {w:World}{c5 c6 c7 B:Nat}(h:w.heap.size≤B)(M:Nat→Prop):OwnFrom B (fun s W=>LenI w c5 c6 c7 s M W):=by
  rintro s W W' row ⟨h1,h2,h3,h4,h5⟩ hg hr
  exact⟨RX.ownFrom_blk (β:=Unit) (B:=B) (fun _=>c5) _ (fun _=>_) () W W' row h1 hg hr,RX.ownFrom_blk (β:=Unit) (B:=B) (fun _=>c6) _ (fun _=>_) () W W' row h2 hg hr,RX.ownFrom_blk (β:=Unit) (B:=B) (fun _=>c7) _ (fun _=>_) () W W' row h3 hg hr,h4,RX.ownFrom_below' (β:=Unit) w h () W W' row h5 hg hr⟩
theorem LenI.im {w:World}{c5 c6 c7 lo hi:Nat}{pre:List PEl}{M:Nat→Prop}{W:World}(h:LenI w c5 c6 c7 pre M W)(h5:w.heap.size≤c5∧c5<lo)(h6:w.heap.size≤c6∧c6<lo)(h7:w.heap.size≤c7∧c7<lo):∀ k,M k→¬DI w.heap.size lo hi k∧k<W.heap.size:=by
  obtain⟨e5,e6,e7,rfl,_⟩:=h
  rintro k (rfl|rfl|rfl)
  · exact⟨fun h=>by rcases h with h|h<;>omega,e5.lt⟩
  · exact⟨fun h=>by rcases h with h|h<;>omega,e6.lt⟩
  · exact⟨fun h=>by rcases h with h|h<;>omega,e7.lt⟩
theorem len_snoc (pre:List PEl)(x:PEl):sumL ((pre++[x]).map PEl.op)=stepL (sumL (pre.map PEl.op)) x.op:=by rw[List.map_append]; exact sumL_snoc _ _
set_option maxRecDepth 100000
theorem ent85 :Ent Tryz.prog 85:=ent_of Tryz.func85 (by kernel_rfl) rfl
theorem ent139 :Ent Tryz.prog 139:=ent_of Tryz.func139 (by kernel_rfl) rfl
theorem weach_any (d:Nat)(w:World):Calls Tryz.prog 85 #[pw d 0] w fun e w'=>∃ g,e=.returned (.func (.func 139) #[] #[pw g 0])∧w.heap.size≤g∧RX.Blk w' g 24 #[pw d 0]∧Below w.heap.size w w':=by
 refine en Tryz.func85 rfl 4 [(0,pw d 0)] (fun R_ hR_=>?_)
 refine sg (xwe 1 [] [(1,pw w.heap.size 0)] (w.alloc (.cells #[pw d 0] 24)) [] trivial ?_)
 obtain⟨w_1,w5,b2,k3,z4⟩:=new_world w #[pw d 0] 24
 rw[w5]
 refine xr0 1 [] [] ?_
 refine nl (sg (xe0 2 [(2,.func (.func 139) #[] #[pw w.heap.size 0])] ?_))
 refine nl (X_ret (rj [.func (.func 139) #[] #[pw w.heap.size 0]] hR_ ?_))
 exact⟨_,rfl,(Nat.le_refl _),k3,b2⟩
set_option maxHeartbeats 1000000 in
theorem weach_seq (D:Nat→Prop)(g d:Nat)(xs:List OpA)(wo w1:World)(hd:DeltaC w1 d xs)(hb:badE xs=0)(hn:xs.length≤1100000)(hz:∀ i,i<xs.length→opSz (xs.getD i op0))(hwo:∀ k,k<wo.heap.size→D k)(hD:∀ k,D k→k<w1.heap.size)(hB:Below wo.heap.size wo w1)(hT:Tabs wo)(es:List Addr)(hE:ErrsO wo es)(hk:RX.Blk w1 g 24 #[pw d 0]):
  SeqM D Tryz.prog 139 #[pw g 0] (fun x:PEl=>#[x.val]) (fun ys=>POK xs ys∧ys.length=xs.length) (fun pre=>POK xs pre) (fun _ _=>True) xs.length w1:=by
 intro lp J Jx M0 W hW hJ hJx hMb hY jJ0
 have hJb:∀ s M (X Y:World),Below X.heap.size X Y→J s M X→J s M Y:=fun s M X Y hb hj=>abides_below (hJ M) hb hj
 have hlm:(List.map pOf xs).length=xs.length:=List.length_map ..
 refine callsIn_wide.2 ?_
 rw[show (#[Value.func (.yield lp) #[] #[]]++#[pw g 0]:Array Value)=#[.func (.yield lp) #[] #[],pw g 0]from rfl]
 refine en Tryz.func139 rfl 17 [(0,.func (.yield lp) #[] #[]),(1,pw g 0)] (fun R_ hR_=>?_)
 refine sg (xe1 1 [(5,.load (pw d 0))] [(0,.func (.yield lp) #[] #[]),(5,pw d 0)] (lc 24 (Blk.below hk hW) 0) ?_)
 refine xc 133 ent133 [pw d 0] (dpieces_any d xs _ (hd.below hW) hb hn hz (hT.below (hB.trans (bel_lo2 hW hB.size))) es (hE.below (hB.trans (bel_lo2 hW hB.size)))) ?_
 rintro e w4 ⟨A1,c2,rfl,r3,b5⟩; refine⟨_,rfl,?_⟩
 have hr9_:kPiece.R 124 w4 W.heap.size (fun k_=>W.heap.size≤k_∧k_<w4.heap.size) (aL A1 (List.map pOf xs) c2) (List.map pOf xs):=Kd.R_mono (Kd.R_bound r3) (fun k_ hk_=>⟨hk_.2.1,hk_.2.2.1⟩)
 refine xr0 2 [(6,aL A1 (List.map pOf xs) c2),(7,i6 ((List.map pOf xs).length:Int)),(8,i6 0)] [5] ?_
 refine nl (X_block ?_)
 have hlh_:W.heap.size≤w4.heap.size:=(b5).size
 have hWl_:W.heap.size≤W.heap.size:=(Nat.le_refl _)
 refine X_loop (ι:=Nat×List PEl×(Nat→Prop)) (fun⟨i,pre,M⟩=>[(0,.func (.yield lp) #[] #[]),(6,aL A1 (List.map pOf xs) c2),(7,i6 ((List.map pOf xs).length:Int)),(8,i6 (i:Int))]) (fun⟨i,pre,M⟩ wl=>i≤xs.length∧pre.length=i∧POK xs pre∧J pre M wl∧(∀ k,M k→k<W.heap.size∨w4.heap.size≤k)∧kPiece.R 124 wl W.heap.size (fun k_=>W.heap.size≤k_∧k_<w4.heap.size) (aL A1 (List.map pOf xs) c2) (List.map pOf xs)∧w4.heap.size≤wl.heap.size) (fun⟨i,pre,M⟩=>xs.length-i) (0,[],M0) ⟨by omega,rfl,rfl,(hJb _ _ _ _ b5 jJ0),(fun k_ h_=>.inl (Nat.lt_of_lt_of_le (hMb _ _ _ jJ0 k_ h_).2 hWl_)),hr9_,(Nat.le_refl _)⟩ (by kernel_rfl) ?_
 rintro⟨i,pre,M⟩ wl ⟨hi_,hpn,hpok,hJ1,hlo1,hr1,hhi1⟩
 refine sq (X_region ?_)
 by_cases c6:(i:Int)<((List.map pOf xs).length:Int)
 ·refine xr1 1 [(9,.eq bT)] [(9,bT)] [] (dT c6) ?_
  refine nl (sq (ct (sk (sq (bk (sq (X_region ?_)))))))
  have hil14:i<xs.length:=by omega
  obtain⟨ad7,cs13,a8,K12,c9⟩:=Kd.atC (Kd.R_C hr1) piece0 (i:=(i:Int)) (by omega) (by omega)
  rw[show (List.map pOf xs).getD (i:Int).toNat piece0=pOf (xs.getD i op0)from map_getD pOf op0 piece0 hil14]at K12
  obtain⟨x10,rfl,x11⟩:=pel_of K12 (badE_getD hb hil14)
  replace c9:CellsAt wl (ad7.add ((i:Int).toNat*1)) [x10.val]:=c9
  refine xr 3 [(10,.idx ad7),(11,.load (x10.val))] [(4,x10.val)] [9] [A1=some ad7,(0:Int)≤(i:Int),(i:Int)<((List.map pOf xs).length:Int),la 124 (ad7.add ((i:Int).toNat*1)) (x10.val) wl] ⟨a8,(by omega),(by omega),loads1 rfl (elem_cell c9 0 _ rfl),trivial⟩ ?_
  refine nl (sq (X_regionI ?_))
  refine XLI_pre 2 (by kernel_rfl) (fun _ _ h_=>h_) ?_
  refine xr0 2 [(12,.func (.yield lp) #[] #[]),(13,x10.val)] [4] ?_
  refine nl ?_
  have hjw_:=hJ1
  have hrw_:=hr1
  have hwl_:wl.heap.size≤wl.heap.size:=(Nat.le_refl _)
  have hpok3_:=hpok.snoc (x:=x10) (by omega) (by rw[hpn]; exact x11)
  refine XLI_yield rfl rfl rfl rfl [x10.val] (by kernel_rfl) (hY pre M x10 _ hjw_ trivial (by omega)) ?_
  rintro e w15 (⟨rfl,M3_,hJ3_,hK3_,hM3_⟩|⟨rfl,hJ3_⟩)
  ·refine⟨_,rfl,?_⟩
   have hpn3_:(pre++[x10]).length=i+1:=by rw[List.length_append,List.length_singleton,hpn]
   have hlo3_:=new_apart hM3_ hlo1 (by omega)
   have hr3_:=hK3_.row hrw_ (fun k_ h1_ h2_=>by have:=hlo1 k_ h2_; omega)
   have hhi3_:w4.heap.size≤w15.heap.size:=by have:=hK3_.size; omega
   refine XLI_of (by kernel_rfl) (fun _ _ h_=>h_) ?_
   refine xr0 1 [(15,bF)] [12,13,14] ?_
   refine nl (cf (sk (rg (xr1 2 [(16,.eq (i6 ((i:Int)+1)))] [(8,i6 ((i:Int)+1))] [15] (w6 ((i:Int)+1)) ?_))))
   refine nl ?_
   refine⟨(i+1,(pre++[x10]),M3_),by kernel_rfl,?_,?_⟩
   ·exact⟨by omega,hpn3_,hpok3_,hJ3_,hlo3_,hr3_,hhi3_⟩
   (try dsimp only); omega
  refine⟨_,rfl,?_⟩
  refine XLI_of (by kernel_rfl) (fun _ _ h_=>h_) ?_
  refine xr0 1 [(15,bT)] [12,13,14] ?_
  refine nl (ct (X_ret (rj [] hR_ ?_)))
  exact⟨⟨_,rfl⟩,.inr ⟨_,hpok3_,hJ3_⟩⟩
 refine xr1 1 [(9,.eq bF)] [(9,bF)] [] (dF c6) ?_
 refine nl (sq (cf (X_exit (ek [] (hR_ _ _ ?_)))))
 exact⟨⟨_,rfl⟩,.inl ⟨pre,M,⟨hpok,by omega⟩,hJ1⟩⟩
end Go.Proofs.YtgphmfnkeolbcaaGreatDoor

set_option linter.unusedVariables false
set_option linter.unusedSimpArgs false
namespace Go.Proofs.YtgphmfnkeolbcaaGreatDoor.RX
open Go Go.RowKit Go.Proofs.YtgphmfnkeolbcaaGreatDoorW.PrintLast
section
variable {P : Program} {N : Nat} {ops : Array Oper} {S : World → Prop} {w : World} {ds : List Nat} {qs : QS} {l : Slots}
theorem XG_last {fuel fuel':Nat}{listed:Array Bool}(i:Nat)(listed':Array Bool)(o:Oper)(h0:ops[i]?=some o)(hr:Region.ready .any ops listed=[i])(hl:listed.setIfInBounds i true=listed')(hf:fuel=fuel'+1)(hd:i∈ds)
    (h:XL P N ops [o] (thenS (fun l' w'=>XG P N ops S ds fuel' listed' qs l' w') qs) l w):XG P N ops S ds fuel listed qs l w:=by
  subst hf
  subst hl
  intro a ha
  refine wpAnyLast_all hr (by simp) fun j hj=>?_
  obtain rfl:j=i:=by simpa using hj
  have h1:=h a ha
  unfold wpOp
  simp only[h0]
  have hm:∀ a' w',lift N (thenS (fun l' w'=>XG P N ops S ds fuel' (listed.setIfInBounds j true) qs l' w') qs) .normal a' w'→
      (j∉ds→S w→S w')∧wpAnyLast P .any ops (lift N qs) S ds fuel' (listed.setIfInBounds j true) a' w':=by
    rintro a' w' ⟨l',hl',hx⟩
    exact⟨fun h_=>absurd hd h_,hx a' hl'⟩
  unfold wpList at h1
  split at h1
  · rename_i hw
    rw[if_pos hw]
    refine h1.imp (fun h1=>upon_Q (Q:=lift N (thenS (fun l' w'=>XG P N ops S ds fuel' (listed.setIfInBounds j true) qs l' w') qs)) (fun _ _ _ hx=>hx) (fun hx=>hx) (Oper.wp_mono (fun a' w' hx=>hm a' w' hx) h1)) (fun h=>h)
  · rename_i hw
    rw[if_neg hw]
    exact hm _ _ h1
end
end Go.Proofs.YtgphmfnkeolbcaaGreatDoor.RX
