import Derived.Test.YtlnnjfdonilgmaaGreatDoorK9
import Derived.Test.YtlnnjfdonilgmaaGreatDoorK7
import Derived.Test.YtlnnjfdonilgmaaGreatDoorOp
import Derived.Test.YtlnnjfdonilgmaaGreatDoorAn3
import Derived.Test.YtlnnjfdonilgmaaGreatDoorUtf4
/- Marks, and the document's marks, as objects: what is theirs in the heap, and what a call does to it. Conditions: sizes, the tables of utf8, the errors' variables. -/
set_option linter.unusedVariables false
set_option linter.unusedSimpArgs false
namespace Go.Proofs.YtlnnjfdonilgmaaGreatDoor
open Go Go.RowKit Go.Proofs.YtlnnjfdonilgmaaGreatDoorW.PrintWords RX
abbrev NewQ (Q Q':Nat→Prop)(w:World):Prop:=∀ k,Q' k→Q k∨w.heap.size≤k
def MI (gm:Nat)(b0:Nat)(ms:List MarkA)(Q:Nat→Prop)(w:World):Prop:=
  ∃ B,RX.Blk w gm 73 #[.map (some B)]∧MapL Tryz.prog 9 markR w B (mL ms)∧Q=(fun k=>k=gm∨k=B)∧b0≤gm∧b0≤B∧ms.length≤64∧∀ x∈ms,nmOk x.1
def RI (gr:Nat)(wB:World)(ms:List MarkA)(Q:Nat→Prop)(w:World):Prop:=
  ∃ A c,RX.Blk w gr 29 #[.slice A ms.length c]∧kMark.R 31 w wB.heap.size (OkFrom wB.heap.size) (.slice A ms.length c) ms∧Q=(fun k=>k=gr∨A.map (·.block)=some k)∧wB.heap.size≤gr∧wB.heap.size≤w.heap.size
theorem kMark_far {e base:Nat}{ok:Nat→Prop}{w w1:World}{A:Option Addr}{n c:Nat}{xs:List MarkA}(h:kMark.R e w base ok (.slice A n c) xs)(hm:∀ k,A.map (·.block)=some k→w1.heap[k]?=w.heap[k]?):kMark.R e w1 base ok (.slice A n c) xs:=by
  obtain⟨h1,inner,h2,h3⟩:=h
  exact⟨h1,inner,own_move h2 (fun k hk=>hm k (by rw[ownB]at hk; exact hk)),h3⟩
section
variable {gm gr b0 : Nat} {wB w w1 : World} {ms : List MarkA} {Q S : Nat → Prop}
theorem MI.lt (h:MI gm b0 ms Q w):∀ k,Q k→b0≤k∧k<w.heap.size:=by
  obtain⟨B,h1,h2,rfl,h4,h5,_⟩:=h
  rintro k (rfl|rfl)
  · exact⟨h4,h1.lt⟩
  · exact⟨h5,h2.lt⟩
theorem MI.far (h:MI gm b0 ms Q w)(hc:Chg S w w1)(hd:∀ k,Q k→¬S k):MI gm b0 ms Q w1:=by
  obtain⟨B,h1,h2,rfl,r⟩:=h
  exact⟨B,hc.blk h1 (hd _ (.inl rfl)),hc.map h2 (hd _ (.inr rfl)),rfl,r⟩
theorem MI.below (h:MI gm b0 ms Q w)(hb:Below w.heap.size w w1):MI gm b0 ms Q w1:=h.far (Chg.below (S:=fun _=>False) hb) fun _ _ h=>h
theorem MI.low {b1:Nat}(h:MI gm b0 ms Q w)(hb:b1≤b0):MI gm b1 ms Q w:=by
  obtain⟨B,h1,h2,h3,h4,h5,r⟩:=h
  exact⟨B,h1,h2,h3,Nat.le_trans hb h4,Nat.le_trans hb h5,r⟩
theorem MI.n (h:MI gm b0 ms Q w):ms.length≤64:=by obtain⟨_,_,_,_,_,_,h,_⟩:=h; exact h
theorem MI.nm (h:MI gm b0 ms Q w):∀ x∈ms,nmOk x.1:=by obtain⟨_,_,_,_,_,_,_,h⟩:=h; exact h
theorem nm_sz {ms:List MarkA}(h:∀ x∈ms,nmOk x.1):∀ x∈ms,x.1.size≤9223372036854775807:=fun x hx=>by have:=(h x hx).2.1; omega
theorem RI.lt (h:RI gr wB ms Q w):∀ k,Q k→wB.heap.size≤k∧k<w.heap.size:=by
  obtain⟨A,c,h1,h2,rfl,h4,_⟩:=h
  rintro k (rfl|hk)
  · exact⟨h4,h1.lt⟩
  · exact⟨row_ge0 h2 k hk,RX.Kd.R_lt h2 k hk⟩
theorem RI.far (h:RI gr wB ms Q w)(hc:Chg S w w1)(hd:∀ k,Q k→¬S k):RI gr wB ms Q w1:=by
  obtain⟨A,c,h1,h2,rfl,h4,h5⟩:=h
  exact⟨A,c,hc.blk h1 (hd _ (.inl rfl)),kMark_far h2 fun k hk=>hc.k k (RX.Kd.R_lt h2 k hk) (hd _ (.inr hk)),rfl,h4,Nat.le_trans h5 hc.size⟩
theorem RI.below (h:RI gr wB ms Q w)(hb:Below w.heap.size w w1):RI gr wB ms Q w1:=h.far (Chg.below (S:=fun _=>False) hb) fun _ _ h=>h
end
theorem mput_mem :∀ {ms:List MarkA} {m x:MarkA},x∈mPut ms m→x∈ms∨x=m
  | [],m,x,h=>.inr (List.mem_singleton.1 h)
  | y::r,m,x,h=>by
    unfold mPut at h
    split at h
    · rcases List.mem_cons.1 h with rfl|h
      · exact .inl (by simp)
      · exact(mput_mem h).imp (fun h=>by simp[h]) id
    · split at h
      · rcases List.mem_cons.1 h with rfl|h
        · exact .inr rfl
        · exact .inl (by simp[h])
      · rcases List.mem_cons.1 h with rfl|h
        · exact .inr rfl
        · exact .inl h
theorem mdel_mem :∀ {ms:List MarkA} {k:ByteArray} {x:MarkA},x∈mDel ms k→x∈ms
  | [],k,x,h=>by cases h
  | y::r,k,x,h=>by
    unfold mDel at h
    split at h
    · rcases List.mem_cons.1 h with rfl|h
      · simp
      · simp[mdel_mem h]
    · split at h
      · simp[h]
      · exact h
theorem mdel_le :∀ (ms:List MarkA) (k:ByteArray),(mDel ms k).length≤ms.length
  | [],k=>Nat.le_refl _
  | y::r,k=>by
    unfold mDel
    split
    · have:=mdel_le r k; simp only[List.length_cons]; omega
    · split
      · simp only[List.length_cons]; omega
      · exact Nat.le_refl _
theorem sCode_inv {ms:List MarkA}{mk:MarkA}{cells:Int}(h:sCode ms mk cells=0):nmOk mk.1∧(mIn ms mk.1∨ms.length<64):=by
  unfold sCode at h
  by_cases h1:nmOk mk.1
  · refine⟨h1,?_⟩
    rw[if_neg (fun k=>k h1)]at h
    split at h
    · cases h
    · split at h
      · cases h
      · rename_i h3
        by_cases h4:mIn ms mk.1
        · exact .inl h4
        · exact .inr (Nat.lt_of_not_le fun h5=>h3 ⟨h4,h5⟩)
  · rw[if_pos h1]at h; cases h
theorem sMs_bd {ms:List MarkA}{mk:MarkA}{cells:Int}(hn:ms.length≤64)(hks:∀ x∈ms,nmOk x.1):(sMs ms mk cells).length≤64∧∀ x∈sMs ms mk cells,nmOk x.1:=by
  unfold sMs
  by_cases h:sCode ms mk cells=0
  · rw[if_pos h]
    obtain⟨h1,h2⟩:=sCode_inv h
    refine⟨?_,fun x hx=>(mput_mem hx).elim (hks x) fun e=>?_⟩
    · rw[mput_len]
      split
      · exact hn
      · rename_i h3
        have:=h2.resolve_left h3
        omega
    · rw[e]; exact h1
  · rw[if_neg h]; exact⟨hn,hks⟩
theorem dMs_bd {ms:List MarkA}{k:ByteArray}(hn:ms.length≤64)(hks:∀ x∈ms,nmOk x.1):(dMs ms k).length≤64∧∀ x∈dMs ms k,nmOk x.1:=by
  unfold dMs
  split
  · exact⟨Nat.le_trans (mdel_le ms k) hn,fun x hx=>hks x (mdel_mem hx)⟩
  · exact⟨hn,hks⟩
theorem mvMs_bd {xs:List OpA}{au:ByteArray}{ms:List MarkA}(hn:ms.length≤64)(hks:∀ x∈ms,nmOk x.1):(mvMs xs au ms).length≤64∧∀ x∈mvMs xs au ms,nmOk x.1:=by
  refine⟨by rw[mv_len]; exact hn,?_⟩
  unfold mvMs
  split
  · intro x hx
    obtain⟨y,hy,rfl⟩:=List.mem_map.1 hx
    exact hks y hy
  · exact hks
section
variable {gm gr b0 : Nat} {wB w : World} {ms : List MarkA} {Q : Nat → Prop}
theorem MI.new (w:World):Calls Tryz.prog 8 #[] w fun e w'=>∃ g Q,e=.returned (.pointer (some ⟨g,0,none⟩))∧MI g w.heap.size [] Q w'∧Below w.heap.size w w':=
  (mnew_any w).mono fun e w' ⟨g,B,h1,h2,h3,h4,h5,h6⟩=>⟨g,_,h1,⟨B,h4,h5,rfl,h2,h3,Nat.zero_le _,fun _ h=>by cases h⟩,h6⟩
theorem MI.set (h:MI gm b0 ms Q w)(mk:MarkA)(cells:Int)(hks:mk.1.size≤9223372036854775807)(hT:Tabs w)(es:List Addr)(hE:ErrsM w es):Calls Tryz.prog 15 #[.pointer (some ⟨gm,0,none⟩),.agg #[.string mk.1,.int .i64 mk.2.1,.int .i64 mk.2.2],.int .i64 cells] w fun e w'=>e=.returned (errV es (sCode ms mk cells))∧MI gm b0 (sMs ms mk cells) Q w'∧Chg Q w w':=by
  obtain⟨B,h1,h2,rfl,h4,h5,h6,h7⟩:=h
  refine(mset_any gm B ms mk cells w h1 h2 (by omega) hks hT es hE).mono fun e w' ⟨he,hc,hm⟩=>⟨he,⟨B,hc.blk h1 (fun e=>h2.ne h1 e),hm,rfl,h4,h5,sMs_bd h6 h7⟩,hc.imp fun _ h=>.inr h⟩
theorem MI.drop (h:MI gm b0 ms Q w)(k:ByteArray)(hks:k.size≤9223372036854775807)(hT:Tabs w)(es:List Addr)(hE:ErrsM w es):Calls Tryz.prog 25 #[.pointer (some ⟨gm,0,none⟩),.string k] w fun e w'=>e=.returned (errV es (dCode ms k))∧MI gm b0 (dMs ms k) Q w'∧Chg Q w w':=by
  obtain⟨B,h1,h2,rfl,h4,h5,h6,h7⟩:=h
  refine(mdrop_any gm B ms k w h1 h2 (by omega) hks hT es hE).mono fun e w' ⟨he,hc,hm⟩=>⟨he,⟨B,hc.blk h1 (fun e=>h2.ne h1 e),hm,rfl,h4,h5,dMs_bd h6 h7⟩,hc.imp fun _ h=>.inr h⟩
theorem MI.get (h:MI gm b0 ms Q w)(k:ByteArray)(hks:k.size≤9223372036854775807)(hT:Tabs w)(es:List Addr)(hE:ErrsM w es):Calls Tryz.prog 17 #[.pointer (some ⟨gm,0,none⟩),.string k] w fun e w'=>e=.returned (.tuple #[mV (gMk ms k),errV es (dCode ms k)])∧Below w.heap.size w w':=by
  obtain⟨B,h1,h2,_,_,_,h6,_⟩:=h
  exact mget_any gm B ms k w h1 h2 (by omega) hks hT es hE
theorem MI.len (h:MI gm b0 ms Q w):Calls Tryz.prog 26 #[.pointer (some ⟨gm,0,none⟩)] w fun e w'=>e=.returned (.int .i64 (ms.length:Int))∧Below w.heap.size w w':=by
  obtain⟨B,h1,h2,_,_,_,h6,_⟩:=h
  exact mlen23_any gm B ms w h1 h2 (by omega)
theorem MI.iter (h:MI gm b0 ms Q w):Calls Tryz.prog 24 #[.pointer (some ⟨gm,0,none⟩)] w fun e w'=>∃ g A' c',e=.returned (.func (.func 55) #[] #[.pointer (some ⟨g,0,none⟩)])∧w.heap.size≤g∧RX.Blk w' g 27 #[.slice A' ms.length c']∧kMark.R 31 w' w.heap.size (OkFrom w.heap.size) (.slice A' ms.length c') ms∧Below w.heap.size w w':=by
  obtain⟨B,h1,h2,_,_,_,h6,h7⟩:=h
  exact mall_any gm B ms w h1 h2 (by omega) (nm_sz h7)
theorem MI.move (h:MI gm b0 ms Q w)(d:Nat)(xs:List OpA)(au:ByteArray)(hd:DeltaC w d xs)(hb:badE xs=0)(hnx:xs.length≤1100000)(hz:∀ i,i<xs.length→opSz (xs.getD i op0))(hT:Tabs w)(es:List Addr)(hE:ErrsM w es)(hw:b0≤w.heap.size):
    Calls Tryz.prog 16 #[.pointer (some ⟨gm,0,none⟩),.pointer (some ⟨d,0,none⟩),.string au] w fun e w'=>e=.returned (errV es (mvE xs au ms))∧∃ Q',MI gm b0 (mvMs xs au ms) Q' w'∧NewQ Q Q' w∧Chg Q w w':=by
  obtain⟨B,h1,h2,rfl,h4,h5,h6,h7⟩:=h
  refine(mmove_any gm B ms d xs au w h1 h2 (by omega) (nm_sz h7) hd hb hnx hz hT es hE).mono fun e w' ⟨he,hc,B',k1,k2,k3⟩=>⟨he,_,⟨B',k1,k2,rfl,h4,k3.elim (fun e=>by rw[e]; exact h5) (fun e=>Nat.le_trans hw e),mvMs_bd h6 h7⟩,fun k hk=>?_,hc.imp fun _ h=>.inl h⟩
  rcases hk with rfl|rfl
  · exact .inl (.inl rfl)
  · exact k3.imp (fun e=>.inr e) id
theorem RI.set (h:RI gr wB ms Q w)(hn:ms.length≤1000)(mk:MarkA)(cells:Int):Calls Tryz.prog 27 #[.pointer (some ⟨gr,0,none⟩),.agg #[.string mk.1,.int .i64 mk.2.1,.int .i64 mk.2.2],.int .i64 cells] w fun e w'=>e=.returned (.int .i64 (sCode ms mk cells:Int))∧∃ Q',RI gr wB (sMs ms mk cells) Q' w'∧NewQ Q Q' w∧Chg Q w w':=by
  obtain⟨A,c,h1,h2,rfl,h4,h5⟩:=h
  exact(r23set_any gr A c ms mk cells wB w h5 h1 h2 hn).mono fun e w' ⟨he,hc,A',c',k1,k2,k3⟩=>⟨he,_,⟨A',c',k1,k2,rfl,h4,Nat.le_trans h5 hc.size⟩,fun k hk=>hk.elim (fun e=>.inl (.inl e)) fun e=>(k3 k e).imp .inr id,hc⟩
theorem RI.drop (h:RI gr wB ms Q w)(hn:ms.length≤1000)(k:ByteArray):Calls Tryz.prog 28 #[.pointer (some ⟨gr,0,none⟩),.string k] w fun e w'=>e=.returned (.int .i64 (dCode ms k:Int))∧∃ Q',RI gr wB (dMs ms k) Q' w'∧NewQ Q Q' w∧Chg Q w w':=by
  obtain⟨A,c,h1,h2,rfl,h4,h5⟩:=h
  exact(r23drop_any gr A c ms k wB w h5 h1 h2 hn).mono fun e w' ⟨he,hc,A',c',k1,k2,k3⟩=>⟨he,_,⟨A',c',k1,k2,rfl,h4,Nat.le_trans h5 hc.size⟩,fun k hk=>hk.elim (fun e=>.inl (.inl e)) fun e=>(k3 k e).imp .inr id,hc⟩
theorem RI.get (h:RI gr wB ms Q w)(hn:ms.length≤1000)(k:ByteArray):Calls Tryz.prog 29 #[.pointer (some ⟨gr,0,none⟩),.string k] w fun e w'=>e=.returned (.tuple #[mV (gMk ms k),.int .i64 (dCode ms k:Int)])∧Below w.heap.size w w':=by
  obtain⟨A,c,h1,h2,_⟩:=h
  exact r23get_any gr A c ms k w h1 (Kd.R_C h2) hn
theorem RI.move (h:RI gr wB ms Q w)(hn:ms.length≤1000)(D:Option Addr)(d:Nat)(xs:List OpA)(au:ByteArray)(hx:kOp.C w D xs.length xs)(hxn:xs.length≤1100000)(hz:∀ i,i<xs.length→opSz (xs.getD i op0))(hb:badE xs=0):
    Calls Tryz.prog 30 #[.pointer (some ⟨gr,0,none⟩),.slice D xs.length d,.string au] w fun e w'=>e=.returned (.int .i64 (mvE xs au ms:Int))∧∃ Q',RI gr wB (mvMs xs au ms) Q' w'∧NewQ Q Q' w∧Chg Q w w':=by
  obtain⟨A,c,h1,h2,rfl,h4,h5⟩:=h
  exact(r23move_any gr A c ms au wB w h5 h1 h2 hn D d xs hx hxn hz hb).mono fun e w' ⟨he,hc,A',c',k1,k2,k3⟩=>⟨he,_,⟨A',c',k1,k2,rfl,h4,Nat.le_trans h5 hc.size⟩,fun k hk=>hk.elim (fun e=>.inl (.inl e)) fun e=>(k3 k e).imp .inr id,hc⟩
theorem MI.tells {Q':Nat→Prop}(h:MI gm b0 ms Q w)(hr:RI gr wB ms Q' w):Calls Tryz.prog 10 #[.pointer (some ⟨gm,0,none⟩),.pointer (some ⟨gr,0,none⟩)] w fun e w'=>e=.returned (.bool true)∧Below w.heap.size w w':=by
  obtain⟨B,h1,h2,_,_,_,h6,h7⟩:=h
  obtain⟨A,c,k1,k2,_⟩:=hr
  exact tells23_any gr A c gm B ms w h1 h2 h6 (nm_sz h7) k1 (Kd.R_C k2)
end
theorem code_le (ms:List MarkA)(mk:MarkA)(cells:Int):sCode ms mk cells≤19:=by unfold sCode; (repeat' split)<;>decide
theorem dCode_le (ms:List MarkA)(k:ByteArray):dCode ms k≤19:=by unfold dCode; split<;>decide
theorem mvE_le (xs:List OpA)(au:ByteArray)(ms:List MarkA):mvE xs au ms≤19:=by unfold mvE; split<;>decide
theorem DeltaR.far {S:Nat→Prop}{w w1:World}{Bs d:Nat}{A:Option Addr}{c:Nat}{xs:List OpA}(h:DeltaR w Bs d A c xs)(hc:Chg S w w1)(hd:∀ k,S k→k<Bs):DeltaR w1 Bs d A c xs:=
  ⟨h.1,hc.blk h.2.1 (fun e=>absurd (hd _ e) (Nat.not_lt.2 h.1)),hc.R h.2.2 fun g hg hs=>absurd (hd g hs) (Nat.not_lt.2 hg)⟩
def PI (gm gr:Nat)(wB:World)(ms:List MarkA)(Q:Nat→Prop)(w:World):Prop:=∃ Qm Qr:Nat→Prop,MI gm wB.heap.size ms Qm w∧RI gr wB ms Qr w∧(∀ k,Qm k→¬Qr k)∧Q=(fun k=>Qm k∨Qr k)
section
variable {gm gr : Nat} {wB w w1 : World} {ms : List MarkA} {Q S : Nat → Prop}
theorem PI.lt (h:PI gm gr wB ms Q w):∀ k,Q k→wB.heap.size≤k∧k<w.heap.size:=by
  obtain⟨Qm,Qr,h1,h2,_,rfl⟩:=h
  exact fun k hk=>hk.elim (h1.lt k) (h2.lt k)
theorem PI.far (h:PI gm gr wB ms Q w)(hc:Chg S w w1)(hd:∀ k,Q k→¬S k):PI gm gr wB ms Q w1:=by
  obtain⟨Qm,Qr,h1,h2,h3,rfl⟩:=h
  exact⟨Qm,Qr,h1.far hc fun k hk=>hd k (.inl hk),h2.far hc fun k hk=>hd k (.inr hk),h3,rfl⟩
theorem PI.below (h:PI gm gr wB ms Q w)(hb:Below w.heap.size w w1):PI gm gr wB ms Q w1:=h.far (Chg.below (S:=fun _=>False) hb) fun _ _ h=>h
end
theorem NewQ.no {Q Q':Nat→Prop}{w:World}{g:Nat}(h:NewQ Q Q' w)(hg:¬Q g)(hl:g<w.heap.size):¬Q' g:=fun k=>(h g k).elim hg fun e=>absurd hl (Nat.not_lt.2 e)
theorem NewQ.apart {Q Q' S:Nat→Prop}{w:World}(h:NewQ Q Q' w)(hd:∀ k,Q k→¬S k)(hl:∀ k,S k→k<w.heap.size):∀ k,Q' k→¬S k:=fun k hk hs=>(h k hk).elim (fun e=>hd k e hs) fun e=>absurd (hl k hs) (Nat.not_lt.2 e)
structure MOp where
  kind:Int
  second:Bool
  mark:MarkA
  cells:Int
  ops:List OpA
def mop0 :MOp:=⟨0,false,mark0,0,[]⟩
def MOp.tup (o:MOp):Int×Bool×MarkA×Int×List OpA:=(o.kind,o.second,o.mark,o.cells,o.ops)
def kMOp :Kd MOp:=Kd.comap MOp.tup (Kd.pair (Kd.int .i64) (Kd.pair Kd.bool (Kd.pair kMark (Kd.pair (Kd.int .i64) (Kd.slice 70 kOp)))))
def mopV (x:MOp)(A:Option Addr)(c:Nat):List Value:=[.int .i64 x.kind,.bool x.second,.string x.mark.1,.int .i64 x.mark.2.1,.int .i64 x.mark.2.2,.int .i64 x.cells,.slice A x.ops.length c]
theorem kMOp_K {w:World}{x:MOp}{cs:List Value}(h:kMOp.K w x cs):∃ A c,cs=mopV x A c∧x.ops.length≤c∧kOp.C w A x.ops.length x.ops:=by
  obtain⟨_,_,rfl,rfl,_,_,rfl,rfl,_,_,rfl,hm,_,_,rfl,rfl,A,c,rfl,hl,hC⟩:=h
  rw[kMark_K hm]
  exact⟨A,c,rfl,hl,hC⟩
theorem kMOp_K_of {w:World}{x:MOp}{A:Option Addr}{c:Nat}(hl:x.ops.length≤c)(hC:kOp.C w A x.ops.length x.ops):kMOp.K w x (mopV x A c):=
  ⟨[.int .i64 x.kind],_,rfl,rfl,[.bool x.second],_,rfl,rfl,mC x.mark,_,rfl,⟨[.string x.mark.1],_,rfl,rfl,[.int .i64 x.mark.2.1],_,rfl,rfl,rfl⟩,[.int .i64 x.cells],_,rfl,rfl,A,c,rfl,hl,hC⟩
theorem Kd.atMOp {w:World}{A:Option Addr}{n:Nat}{xs:List MOp}(h:kMOp.C w A n xs){i:Int}(h0:0≤i)(h1:i<n):∃ ad B c,A=some ad∧CellsAt w (ad.add (i.toNat*7)) (mopV (xs.getD i.toNat mop0) B c)∧(xs.getD i.toNat mop0).ops.length≤c∧kOp.C w B (xs.getD i.toNat mop0).ops.length (xs.getD i.toNat mop0).ops:=by
  obtain⟨ad,cs,e,hK,hc⟩:=Kd.atC h mop0 h0 h1
  obtain⟨B,c,rfl,hl,hC⟩:=kMOp_K hK
  exact⟨ad,B,c,e,hc,hl,hC⟩
def mopSz (o:MOp):Prop:=o.mark.1.size≤50000000∧o.ops.length≤116508∧(∀ i,i<o.ops.length→opSz (o.ops.getD i op0))∧B.txS o.ops≤1048576
set_option maxRecDepth 100000
namespace B
theorem can_fix {xs:List OpA}(h:Can xs):can xs=xs:=by
  obtain⟨h1,_,_,h4,h5⟩:=of_can h
  unfold can
  rw[run_fix xs h1 h4]
  by_cases hd:xs.length≠0∧(lst xs).kind=4
  · rw[if_pos hd]
    rcases snoc_cases xs with rfl|⟨ys,a,rfl⟩
    · exact absurd rfl hd.1
    · rw[lst_snoc]at hd ⊢
      obtain⟨_,ga⟩:=bad_snoc.1 h1
      have hcn:=count_of_ok ga (.inr hd.2)
      rw[List.length_append,List.length_singleton,Nat.add_sub_cancel,List.take_left]
      unfold dels
      rw[if_neg (by show ¬a.count=0; omega),←ok_del ga hd.2,fin_snoc,if_neg (fun k=>by have:=k.1; omega)]
  · rw[if_neg hd]
    show fin (dels xs 0)=xs
    rw[show dels xs 0=xs from if_pos rfl]
    unfold fin
    rw[if_neg (fun k=>h5.elim k.1 (fun h=>h k.2))]
end B
end Go.Proofs.YtlnnjfdonilgmaaGreatDoor
