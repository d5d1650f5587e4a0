import Derived.Test.YtlnnjfdonilgmaaGreatDoorK9
import Derived.Test.YtlnnjfdonilgmaaGreatDoorK2
import Derived.Test.YtlnnjfdonilgmaaGreatDoorAn3
import Derived.Test.YtlnnjfdonilgmaaGreatDoorUtf4
import Derived.Test.YtlnnjfdonilgmaaGreatDoorChg
import Derived.Test.YtlnnjfdonilgmaaGreatDoorPlc
import Derived.Test.YtlnnjfdonilgmaaGreatDoorO3
import Derived.Test.YtlnnjfdonilgmaaGreatDoorA1
import Derived.Test.YtlnnjfdonilgmaaGreatDoorMap
/- Marks, and the document's marks, as objects: what is theirs in the heap, and what a call does to it. Conditions: sizes, the tables of utf8, the errors' variables. -/
set_option linter.unusedVariables false
set_option linter.unusedSimpArgs false
namespace Go.Proofs.YtlnnjfdonilgmaaGreatDoor
open Go Go.RowKit Go.Proofs.YtlnnjfdonilgmaaGreatDoorW.PrintWords RX
abbrev NewQ (Q Q':Nat→Prop)(w:World):Prop:=∀ k,Q' k→Q k∨w.heap.size≤k
def MI (gm:Nat)(b0:Nat)(ms:List MarkA)(Q:Nat→Prop)(w:World):Prop:=
  ∃ B,RX.Blk w gm 73 #[.map (some B)]∧MapL Tryz.prog 9 markR w B (mL ms)∧Q=(fun k=>k=gm∨k=B)∧b0≤gm∧b0≤B∧ms.length≤64∧∀ x∈ms,nmOk x.1
section
variable {gm gr b0 : Nat} {wB w w1 : World} {ms : List MarkA} {Q S : Nat → Prop}
theorem MI.lt (h:MI gm b0 ms Q w):∀ k,Q k→b0≤k∧k<w.heap.size:=by
  obtain⟨B,h1,h2,rfl,h4,h5,_⟩:=h
  rintro k (rfl|rfl)
  · exact⟨h4,h1.lt⟩
  · exact⟨h5,h2.lt⟩
theorem MI.far (h:MI gm b0 ms Q w)(hc:Chg S w w1)(hd:∀ k,Q k→¬S k):MI gm b0 ms Q w1:=by
  obtain⟨B,h1,h2,rfl,r⟩:=h
  exact⟨B,hc.blk h1 (hd _ (.inl rfl)),hc.map h2 (hd _ (.inr rfl)),rfl,r⟩
theorem MI.below (h:MI gm b0 ms Q w)(hb:Below w.heap.size w w1):MI gm b0 ms Q w1:=h.far (Chg.below (S:=fun _=>False) hb) fun _ _ h=>h
theorem MI.low {b1:Nat}(h:MI gm b0 ms Q w)(hb:b1≤b0):MI gm b1 ms Q w:=by
  obtain⟨B,h1,h2,h3,h4,h5,r⟩:=h
  exact⟨B,h1,h2,h3,Nat.le_trans hb h4,Nat.le_trans hb h5,r⟩
theorem nm_sz {ms:List MarkA}(h:∀ x∈ms,nmOk x.1):∀ x∈ms,x.1.size≤9223372036854775807:=fun x hx=>by have:=(h x hx).2.1; omega
end
theorem mput_mem :∀ {ms:List MarkA} {m x:MarkA},x∈mPut ms m→x∈ms∨x=m
  | [],m,x,h=>.inr (List.mem_singleton.1 h)
  | y::r,m,x,h=>by
    unfold mPut at h
    split at h
    · rcases List.mem_cons.1 h with rfl|h
      · exact .inl (by simp)
      · exact(mput_mem h).imp (fun h=>by simp[h]) id
    · split at h
      · rcases List.mem_cons.1 h with rfl|h
        · exact .inr rfl
        · exact .inl (by simp[h])
      · rcases List.mem_cons.1 h with rfl|h
        · exact .inr rfl
        · exact .inl h
theorem mdel_mem :∀ {ms:List MarkA} {k:ByteArray} {x:MarkA},x∈mDel ms k→x∈ms
  | [],k,x,h=>by cases h
  | y::r,k,x,h=>by
    unfold mDel at h
    split at h
    · rcases List.mem_cons.1 h with rfl|h
      · simp
      · simp[mdel_mem h]
    · split at h
      · simp[h]
      · exact h
theorem mdel_le :∀ (ms:List MarkA) (k:ByteArray),(mDel ms k).length≤ms.length
  | [],k=>Nat.le_refl _
  | y::r,k=>by
    unfold mDel
    split
    · have:=mdel_le r k; simp only[List.length_cons]; omega
    · split
      · simp only[List.length_cons]; omega
      · exact Nat.le_refl _
theorem sCode_inv {ms:List MarkA}{mk:MarkA}{cells:Int}(h:sCode ms mk cells=0):nmOk mk.1∧(mIn ms mk.1∨ms.length<64):=by
  unfold sCode at h
  by_cases h1:nmOk mk.1
  · refine⟨h1,?_⟩
    rw[if_neg (fun k=>k h1)]at h
    split at h
    · cases h
    · split at h
      · cases h
      · rename_i h3
        by_cases h4:mIn ms mk.1
        · exact .inl h4
        · exact .inr (Nat.lt_of_not_le fun h5=>h3 ⟨h4,h5⟩)
  · rw[if_pos h1]at h; cases h
theorem sMs_bd {ms:List MarkA}{mk:MarkA}{cells:Int}(hn:ms.length≤64)(hks:∀ x∈ms,nmOk x.1):(sMs ms mk cells).length≤64∧∀ x∈sMs ms mk cells,nmOk x.1:=by
  unfold sMs
  by_cases h:sCode ms mk cells=0
  · rw[if_pos h]
    obtain⟨h1,h2⟩:=sCode_inv h
    refine⟨?_,fun x hx=>(mput_mem hx).elim (hks x) fun e=>?_⟩
    · rw[mput_len]
      split
      · exact hn
      · rename_i h3
        have:=h2.resolve_left h3
        omega
    · rw[e]; exact h1
  · rw[if_neg h]; exact⟨hn,hks⟩
theorem dMs_bd {ms:List MarkA}{k:ByteArray}(hn:ms.length≤64)(hks:∀ x∈ms,nmOk x.1):(dMs ms k).length≤64∧∀ x∈dMs ms k,nmOk x.1:=by
  unfold dMs
  split
  · exact⟨Nat.le_trans (mdel_le ms k) hn,fun x hx=>hks x (mdel_mem hx)⟩
  · exact⟨hn,hks⟩
theorem mvMs_bd {xs:List OpA}{au:ByteArray}{ms:List MarkA}(hn:ms.length≤64)(hks:∀ x∈ms,nmOk x.1):(mvMs xs au ms).length≤64∧∀ x∈mvMs xs au ms,nmOk x.1:=by
  refine⟨by rw[mv_len]; exact hn,?_⟩
  unfold mvMs
  split
  · intro x hx
    obtain⟨y,hy,rfl⟩:=List.mem_map.1 hx
    exact hks y hy
  · exact hks
section
variable {gm gr b0 : Nat} {wB w : World} {ms : List MarkA} {Q : Nat → Prop}
theorem MI.new (w:World):Calls Tryz.prog 8 #[] w fun e w'=>∃ g Q,e=.returned (.pointer (some ⟨g,0,none⟩))∧MI g w.heap.size [] Q w'∧Below w.heap.size w w':=
  (mnew_any w).mono fun e w' ⟨g,B,h1,h2,h3,h4,h5,h6⟩=>⟨g,_,h1,⟨B,h4,h5,rfl,h2,h3,Nat.zero_le _,fun _ h=>by cases h⟩,h6⟩
theorem MI.set (h:MI gm b0 ms Q w)(mk:MarkA)(cells:Int)(hks:mk.1.size≤9223372036854775807)(hT:Tabs w)(es:List Addr)(hE:ErrsM w es):Calls Tryz.prog 15 #[.pointer (some ⟨gm,0,none⟩),.agg #[.string mk.1,.int .i64 mk.2.1,.int .i64 mk.2.2],.int .i64 cells] w fun e w'=>e=.returned (errV es (sCode ms mk cells))∧MI gm b0 (sMs ms mk cells) Q w'∧Chg Q w w':=by
  obtain⟨B,h1,h2,rfl,h4,h5,h6,h7⟩:=h
  refine(mset_any gm B ms mk cells w h1 h2 (by omega) hks hT es hE).mono fun e w' ⟨he,hc,hm⟩=>⟨he,⟨B,hc.blk h1 (fun e=>h2.ne h1 e),hm,rfl,h4,h5,sMs_bd h6 h7⟩,hc.imp fun _ h=>.inr h⟩
theorem MI.drop (h:MI gm b0 ms Q w)(k:ByteArray)(hks:k.size≤9223372036854775807)(hT:Tabs w)(es:List Addr)(hE:ErrsM w es):Calls Tryz.prog 25 #[.pointer (some ⟨gm,0,none⟩),.string k] w fun e w'=>e=.returned (errV es (dCode ms k))∧MI gm b0 (dMs ms k) Q w'∧Chg Q w w':=by
  obtain⟨B,h1,h2,rfl,h4,h5,h6,h7⟩:=h
  refine(mdrop_any gm B ms k w h1 h2 (by omega) hks hT es hE).mono fun e w' ⟨he,hc,hm⟩=>⟨he,⟨B,hc.blk h1 (fun e=>h2.ne h1 e),hm,rfl,h4,h5,dMs_bd h6 h7⟩,hc.imp fun _ h=>.inr h⟩
theorem MI.get (h:MI gm b0 ms Q w)(k:ByteArray)(hks:k.size≤9223372036854775807)(hT:Tabs w)(es:List Addr)(hE:ErrsM w es):Calls Tryz.prog 17 #[.pointer (some ⟨gm,0,none⟩),.string k] w fun e w'=>e=.returned (.tuple #[mV (gMk ms k),errV es (dCode ms k)])∧Below w.heap.size w w':=by
  obtain⟨B,h1,h2,_,_,_,h6,_⟩:=h
  exact mget_any gm B ms k w h1 h2 (by omega) hks hT es hE
theorem MI.len (h:MI gm b0 ms Q w):Calls Tryz.prog 26 #[.pointer (some ⟨gm,0,none⟩)] w fun e w'=>e=.returned (.int .i64 (ms.length:Int))∧Below w.heap.size w w':=by
  obtain⟨B,h1,h2,_,_,_,h6,_⟩:=h
  exact mlen23_any gm B ms w h1 h2 (by omega)
theorem MI.move (h:MI gm b0 ms Q w)(d:Nat)(xs:List OpA)(au:ByteArray)(hd:DeltaC w d xs)(hb:badE xs=0)(hnx:xs.length≤1100000)(hz:∀ i,i<xs.length→opSz (xs.getD i op0))(hT:Tabs w)(es:List Addr)(hE:ErrsM w es)(hw:b0≤w.heap.size):
    Calls Tryz.prog 16 #[.pointer (some ⟨gm,0,none⟩),.pointer (some ⟨d,0,none⟩),.string au] w fun e w'=>e=.returned (errV es (mvE xs au ms))∧∃ Q',MI gm b0 (mvMs xs au ms) Q' w'∧NewQ Q Q' w∧Chg Q w w':=by
  obtain⟨B,h1,h2,rfl,h4,h5,h6,h7⟩:=h
  refine(mmove_any gm B ms d xs au w h1 h2 (by omega) (nm_sz h7) hd hb hnx hz hT es hE).mono fun e w' ⟨he,hc,B',k1,k2,k3⟩=>⟨he,_,⟨B',k1,k2,rfl,h4,k3.elim (fun e=>by rw[e]; exact h5) (fun e=>Nat.le_trans hw e),mvMs_bd h6 h7⟩,fun k hk=>?_,hc.imp fun _ h=>.inl h⟩
  rcases hk with rfl|rfl
  · exact .inl (.inl rfl)
  · exact k3.imp (fun e=>.inr e) id
end
theorem DeltaR.far {S:Nat→Prop}{w w1:World}{Bs d:Nat}{A:Option Addr}{c:Nat}{xs:List OpA}(h:DeltaR w Bs d A c xs)(hc:Chg S w w1)(hd:∀ k,S k→k<Bs):DeltaR w1 Bs d A c xs:=
  ⟨h.1,hc.blk h.2.1 (fun e=>absurd (hd _ e) (Nat.not_lt.2 h.1)),hc.R h.2.2 fun g hg hs=>absurd (hd g hs) (Nat.not_lt.2 hg)⟩
section
variable {gm gr : Nat} {wB w w1 : World} {ms : List MarkA} {Q S : Nat → Prop}
end
theorem NewQ.no {Q Q':Nat→Prop}{w:World}{g:Nat}(h:NewQ Q Q' w)(hg:¬Q g)(hl:g<w.heap.size):¬Q' g:=fun k=>(h g k).elim hg fun e=>absurd hl (Nat.not_lt.2 e)
set_option maxRecDepth 100000
namespace B
theorem can_fix {xs:List OpA}(h:Can xs):can xs=xs:=by
  obtain⟨h1,_,_,h4,h5⟩:=of_can h
  unfold can
  rw[run_fix xs h1 h4]
  by_cases hd:xs.length≠0∧(lst xs).kind=4
  · rw[if_pos hd]
    rcases snoc_cases xs with rfl|⟨ys,a,rfl⟩
    · exact absurd rfl hd.1
    · rw[lst_snoc]at hd ⊢
      obtain⟨_,ga⟩:=bad_snoc.1 h1
      have hcn:=count_of_ok ga (.inr hd.2)
      rw[List.length_append,List.length_singleton,Nat.add_sub_cancel,List.take_left]
      unfold dels
      rw[if_neg (by show ¬a.count=0; omega),←ok_del ga hd.2,fin_snoc,if_neg (fun k=>by have:=k.1; omega)]
  · rw[if_neg hd]
    show fin (dels xs 0)=xs
    rw[show dels xs 0=xs from if_pos rfl]
    unfold fin
    rw[if_neg (fun k=>h5.elim k.1 (fun h=>h k.2))]
end B
theorem ent11 :Ent Tryz.prog 11:=ent_of Tryz.func11 (by kernel_rfl) rfl
theorem DeltaR_low {w:World}{Bs B1 d:Nat}{A:Option Addr}{c:Nat}{xs:List OpA}(h:DeltaR w Bs d A c xs)(hb:B1≤Bs):DeltaR w B1 d A c xs:=⟨Nat.le_trans hb h.1,h.2.1,Kd.R_low h.2.2 hb⟩
theorem bof_can (A:Option Addr)(c:Nat)(xs:List OpA)(w:World)(hc:Can xs)(hx:kOp.C w A xs.length xs)(hxc:xs.length≤c)(hn:xs.length≤1100000)(hz:∀ i,i<xs.length→opSz (xs.getD i op0))(ht:B.txS xs≤50000000)(hT:Tabs w)(es:List Addr)(hE:ErrsO w es):
  Calls Tryz.prog 32 #[aL A xs c] w fun e w'=>∃ d A' c',e=.returned (.tuple #[pw d 0,i6 0,.nilIface])∧DeltaR w' w.heap.size d A' c' xs∧Below w.heap.size w w':=by
 obtain⟨h1,h2,h3,_,_⟩:=B.of_can hc
 refine(bof_any A c xs w hx hxc hn hz ht hT es hE).mono fun e w' ⟨hb,h⟩=>?_
 rw[B.can_fix hc]at h
 rcases h with ⟨_,d,A',c',k1,k2⟩|⟨k1,_⟩
 ·exact⟨d,A',c',k1,k2,hb⟩
 exact absurd (by rw[B.bOf_of h1 h2 h3]) k1
theorem lof_any (A:Option Addr)(c:Nat)(xs:List OpA)(w:World)(hx:kOp.C w A xs.length xs)(hxc:xs.length≤c)(hn:xs.length≤1100000)(hz:∀ i,i<xs.length→opSz (xs.getD i op0))(ht:B.txS xs≤50000000)(hT:Tabs w)(es:List Addr)(hE:ErrsM w es):
  Calls Tryz.prog 11 #[aL A xs c] w fun e w'=>Below w.heap.size w w'∧((Can xs∧badE xs=0∧∃ d A' c',e=.returned (pw d 0)∧DeltaR w' w.heap.size d A' c' xs)∨(¬Can xs∧e=.returned (.pointer none))):=by
 refine en Tryz.func11 rfl 18 [(0,aL A xs c)] (fun R_ hR_=>?_)
 refine sg (xe0 1 [(0,aL A xs c)] ?_)
 refine nl (sq (sg (xr0 1 [(6,aL A xs c)] [] ?_)))
 refine xc 31 ent31 [aL A xs c] (r5can_any _ _ xs _ hx (by omega) hz (hT.below (Below.refl _ _))) ?_
 rintro e w1 ⟨rfl,b2⟩; refine⟨_,rfl,?_⟩
 by_cases c3:canP xs=true
 ·rw[show (canP xs:Bool)=true from by simpa using c3]
  refine xr0 1 [(8,bF)] [6,7] ?_
  refine nl (cf (sk (sg (xe0 1 [(10,aL A xs c)] ?_))))
  have hcan_:=(canP_iff xs).1 c3
  refine xc 32 ent32 [aL A xs c] (bof_can _ _ xs _ hcan_ (Kd.C_below hx b2) hxc hn hz ht (hT.below b2) es ((hE.sub (by decide):ErrsO w es).below b2)) ?_
  rintro e w8 ⟨d4,A5,c6,rfl,d7,b9⟩; refine⟨_,rfl,?_⟩
  refine xe0 7 [(3,pw d4 0),(5,.nilIface)] ?_
  refine nl (sq (sg (xr0 2 [(16,bF)] [5] ?_)))
  refine nl (cf (sk (sg (xe0 2 [(2,pw d4 0)] ?_))))
  refine nl (X_ret (rj [pw d4 0] hR_ ?_))
  exact⟨(bt b2 b9),.inl ⟨hcan_,(B.of_can hcan_).1,_,_,_,rfl,DeltaR_low d7 (b2).size⟩⟩
 rw[show (canP xs:Bool)=false from by simpa using c3]
 refine xr0 1 [(8,bT)] [6,7] ?_
 refine nl (ct (sg (xe0 1 [(2,.pointer none)] ?_)))
 refine nl (X_ret (rj [.pointer none] hR_ ?_))
 exact⟨b2,.inr ⟨fun h_=>c3 ((canP_iff xs).2 h_),rfl⟩⟩
theorem ent7 :Ent Tryz.prog 7:=ent_of Tryz.func7 (by kernel_rfl) rfl

abbrev bAnn :ByteArray:=⟨#[97,110,110]⟩
abbrev bBob :ByteArray:=⟨#[98,111,98]⟩
abbrev bEve :ByteArray:=⟨#[101,118,101]⟩
abbrev fxA :MarkA:=(bAnn,2,2)
abbrev fxB :MarkA:=(bBob,2,4)
abbrev fxL :List MarkA:=[(bAnn,4,4),(bBob,2,6)]
def fxO :List OpA:=[⟨3,ByteArray.empty,0,0,ByteArray.empty,2,[]⟩,⟨1,⟨#[120,121]⟩,0,0,ByteArray.empty,0,[]⟩]
theorem nm_ann :nmOk bAnn:=⟨by decide,by decide,by kernel_rfl⟩
theorem nm_bob :nmOk bBob:=⟨by decide,by decide,by kernel_rfl⟩
theorem fx1 :sCode [] fxA 5=0:=sCode_0 nm_ann (by decide) (fun h=>by have:=h.2; simp at this)
theorem fx2 :sMs [] fxA 5=[fxA]:=sMs_put fx1
theorem fx3 :sCode [fxA] fxB 5=0:=sCode_0 nm_bob (by decide) (fun h=>by have:=h.2; simp at this)
theorem fx4 :sMs [fxA] fxB 5=[fxA,fxB]:=(sMs_put fx3).trans (by kernel_rfl)
theorem fxO_bad :badE fxO=0:=by kernel_rfl
theorem fxO_sums :sB fxO≤B.L∧sR fxO≤B.L:=by
 have h1:=U.sc_le ⟨#[120,121]⟩
 have e1:ByteArray.size ⟨#[120,121]⟩=2:=rfl
 refine⟨show sumI opB fxO≤1099511627776 from ?_,show sumI opR fxO≤1099511627776 from ?_⟩
 ·simp only[fxO,sumI,opB,opLen]; simp
 simp only[fxO,sumI,opR,opLen]; simp; omega
theorem fxO_can :Can fxO:=by
 have h:=(B.bOf_canOk (xs:=fxO) (by rw[B.bOf_of fxO_bad fxO_sums.1 fxO_sums.2])).1
 rwa [show B.can fxO=fxO from by kernel_rfl]at h
theorem fx_lit {t:ByteArray}{k n:Int}(h:t.size≤100):opSz ⟨k,t,0,0,ByteArray.empty,n,[]⟩:=⟨Nat.le_trans h (by decide),Nat.zero_le _,Nat.zero_le _,fun i hi=>absurd hi (Nat.not_lt_zero _)⟩
theorem fxO_sz :∀ i,i<fxO.length→opSz (fxO.getD i op0):=by
 intro i hi
 match i,hi with
 | 0,_=>exact fx_lit (by decide)
 | 1,_=>exact fx_lit (by decide)
 | k+2,h=>exact absurd h (by show ¬k+2<2; omega)
theorem fx_xy :(U.sc ⟨#[120,121]⟩).length=2:=by
 have h:=(U.text_utf (l:=[120,121]) (by intro r hr; simp only[List.mem_cons,List.not_mem_nil,or_false]at hr; rcases hr with rfl|rfl<;>exact⟨by decide,.inl (by decide)⟩)).2
 rw[show runesBytes [120,121]=⟨#[120,121]⟩from by kernel_rfl]at h
 simpa using congrArg List.length h
theorem fx_pel :fxO.map pelO=[(3,2),(1,2)]:=by
 show [pelO _,pelO _]=_
 unfold pelO
 simp only[fx_xy]
 rfl
theorem fx_pl {p q:Int}{b:Bool}(h0:¬(p<0∨1099511627776<p))(h:plOf p b [(3,2),(1,2)]=q)(h1:¬1099511627776<q):plE fxO p b=(q,0):=by
 unfold plE
 rw[if_neg h0,fx_pel,h,if_neg h1]
theorem fx_a :plE fxO 2 (bA fxA bAnn)=(4,0):=fx_pl (by decide) (by kernel_rfl) (by decide)
theorem fx_b1 :plE fxO 2 (bA fxB bAnn)=(2,0):=fx_pl (by decide) (by kernel_rfl) (by decide)
theorem fx_b2 :plE fxO 4 (bA fxB bAnn)=(6,0):=fx_pl (by decide) (by kernel_rfl) (by decide)
theorem fx_ok :∀ x∈[fxA,fxB],mvOk fxO bAnn x:=by
 intro x hx
 simp only[List.mem_cons,List.not_mem_nil,or_false]at hx
 rcases hx with rfl|rfl
 ·exact⟨congrArg Prod.snd fx_a,congrArg Prod.snd fx_a⟩
 exact⟨congrArg Prod.snd fx_b1,congrArg Prod.snd fx_b2⟩
theorem fx5 :mvE fxO bAnn [fxA,fxB]=0:=if_pos fx_ok
theorem fx6 :mvMs fxO bAnn [fxA,fxB]=fxL:=(if_pos fx_ok).trans (by
 show [(bAnn,(plE fxO 2 (bA fxA bAnn)).1,(plE fxO 2 (bA fxA bAnn)).1),(bBob,(plE fxO 2 (bA fxB bAnn)).1,(plE fxO 4 (bA fxB bAnn)).1)]=_
 rw[fx_a,fx_b1,fx_b2])
theorem fx7 :gMk fxL bAnn=(bAnn,4,4):=by kernel_rfl
theorem fx8 :gMk fxL bBob=(bBob,2,6):=by kernel_rfl
theorem fx9 :dCode fxL bAnn=0:=by kernel_rfl
theorem fx10 :dCode fxL bBob=0:=by kernel_rfl
theorem fx11 :dCode fxL bEve=16:=by kernel_rfl
theorem lof_can (A:Option Addr)(c:Nat)(xs:List OpA)(w:World)(hc:Can xs)(hx:kOp.C w A xs.length xs)(hxc:xs.length≤c)(hn:xs.length≤1100000)(hz:∀ i,i<xs.length→opSz (xs.getD i op0))(ht:B.txS xs≤50000000)(hT:Tabs w)(es:List Addr)(hE:ErrsM w es):
  Calls Tryz.prog 11 #[aL A xs c] w fun e w'=>∃ d A' c',e=.returned (pw d 0)∧DeltaR w' w.heap.size d A' c' xs∧Below w.heap.size w w':=
 (lof_any A c xs w hx hxc hn hz ht hT es hE).mono fun e w' ⟨hb,h⟩=>by
  rcases h with ⟨_,_,d,A',c',k1,k2⟩|⟨k1,_⟩
  ·exact⟨d,A',c',k1,k2,hb⟩
  exact absurd hc k1
set_option maxHeartbeats 2000000 in
theorem fixed23_any (wB:World)(hT:Tabs wB)(es:List Addr)(hE:ErrsM wB es):Calls Tryz.prog 7 #[] wB fun e w'=>e=.returned bT∧Below wB.heap.size wB w':=by
 refine en Tryz.func7 rfl 73 [] (fun R_ hR_=>?_)
 refine sg (xe0 1 [] ?_)
 refine nl (sg (xc 8 ent8 [] (MI.new _) ?_))
 rintro e w5 ⟨g1,Q2,rfl,M3,b4⟩; refine⟨_,rfl,?_⟩
 have M6:MI g1 wB.heap.size [] Q2 w5:=MI.low M3 (Nat.le_refl _)
 refine xe0 1 [(1,pw g1 0)] ?_
 refine nl (sg (xw 3 [] [(10,.slice (some ⟨w5.heap.size,0,none⟩) 2 2)] [] (w5.alloc (.cells #[i6 3,s0,i6 0,i6 0,s0,i6 2,.slice none 0 0,i6 1,sT (⟨#[120,121]⟩:ByteArray),i6 0,i6 0,s0,i6 0,.slice none 0 0] 70)) [] trivial ?_))
 obtain⟨w7,w11,b8,k9,z10⟩:=new_world w5 #[i6 3,s0,i6 0,i6 0,s0,i6 2,.slice none 0 0,i6 1,sT (⟨#[120,121]⟩:ByteArray),i6 0,i6 0,s0,i6 0,.slice none 0 0] 70
 rw[w11]
 have r12:=Kd.R_litB kOp (W:=w5) (e:=70) (cs:=#[i6 3,s0,i6 0,i6 0,s0,i6 2,.slice none 0 0,i6 1,sT (⟨#[120,121]⟩:ByteArray),i6 0,i6 0,s0,i6 0,.slice none 0 0]) [(⟨3,ByteArray.empty,0,0,ByteArray.empty,2,[]⟩:OpA),(⟨1,(⟨#[120,121]⟩:ByteArray),0,0,ByteArray.empty,0,[]⟩:OpA)] k9 (repsOp0 [(⟨3,ByteArray.empty,0,0,ByteArray.empty,2,[]⟩:OpA),(⟨1,(⟨#[120,121]⟩:ByteArray),0,0,ByteArray.empty,0,[]⟩:OpA)] (by intro x hx; simp only[List.mem_cons,List.not_mem_nil,or_false]at hx; rcases hx with rfl|rfl<;>rfl)) (Nat.le_of_ble_eq_true (by kernel_rfl))
 refine xc 11 ent11 [.slice (some ⟨w5.heap.size,0,none⟩) 2 2] (lof_can _ 2 fxO _ fxO_can (Kd.R_C r12) (Nat.le_of_ble_eq_true rfl) (Nat.le_of_ble_eq_true rfl) fxO_sz (Nat.le_of_ble_eq_true rfl) (hT.below (bt b4 b8)) es (hE.below (bt b4 b8))) ?_
 rintro e w13 ⟨d14,A15,c16,rfl,d17,b18⟩; refine⟨_,rfl,?_⟩
 refine xr0 1 [(2,pw d14 0)] [10,11] ?_
 refine nl (sq (sg (xr0 9 [(18,bF),(19,pw g1 0),(20,.agg #[sT (⟨#[97,110,110]⟩:ByteArray),i6 2,i6 2])] [] ?_)))
 have O24:=(M6.below (bt b8 b18))
 refine xc 15 ent15 [pw g1 0,.agg #[sT (⟨#[97,110,110]⟩:ByteArray),i6 2,i6 2],i6 5] (O24.set fxA 5 (by decide) (hT.below (bt (bt b4 b8) b18)) es (hE.below (bt (bt b4 b8) b18))) ?_
 rintro e w19 ⟨rfl,M20,C21⟩; refine⟨_,rfl,?_⟩
 have hlo25:Below wB.heap.size w13 w19:=C21.lo ((bt (bt b4 b8) b18)).size (fun g_ h_=>(O24.lt g_ h_).1)
 have k26:=C21.blk (Blk.below k9 b18) (fun h_=>absurd (M6.lt _ h_).2 (Nat.not_lt.2 (Nat.le_refl _)))
 have hno27:¬Q2 w5.heap.size:=(fun h_=>absurd (M6.lt _ h_).2 (Nat.not_lt.2 (Nat.le_refl _)))
 have D28:=DeltaR.far d17 C21 (fun k_ h_=>Nat.lt_of_lt_of_le (M6.lt k_ h_).2 (b8).size)
 rw[fx2]at M20
 rw[fx1,errV_zero]
 refine xr0 5 [(24,bF),(25,pw g1 0),(26,.agg #[sT (⟨#[98,111,98]⟩:ByteArray),i6 2,i6 4])] [18,19,20,21] ?_
 have B29:Below wB.heap.size wB w19:=(Below.trans (bt (bt b4 b8) b18) hlo25)
 have O35:=M20
 refine xc 15 ent15 [pw g1 0,.agg #[sT (⟨#[98,111,98]⟩:ByteArray),i6 2,i6 4],i6 5] (O35.set fxB 5 (by decide) (hT.below B29) es (hE.below B29)) ?_
 rintro e w30 ⟨rfl,M31,C32⟩; refine⟨_,rfl,?_⟩
 have hlo36:Below wB.heap.size w19 w30:=C32.lo (B29).size (fun g_ h_=>(O35.lt g_ h_).1)
 have k37:=C32.blk k26 hno27
 have D38:=DeltaR.far D28 C32 (fun k_ h_=>Nat.lt_of_lt_of_le (M6.lt k_ h_).2 (b8).size)
 rw[fx4]at M31
 rw[fx3,errV_zero]
 refine xe0 5 [(1,pw g1 0),(30,bF),(31,pw g1 0),(32,pw d14 0)] ?_
 have O44:=M31
 refine xc 16 ent16 [pw g1 0,pw d14 0,sT (⟨#[97,110,110]⟩:ByteArray)] (O44.move d14 fxO bAnn (D38.c) fxO_bad (Nat.le_of_ble_eq_true rfl) fxO_sz (hT.below (Below.trans B29 hlo36)) es (hE.below (Below.trans B29 hlo36)) ((Below.trans B29 hlo36)).size) ?_
 rintro e w39 ⟨rfl,Q42,M40,N43,C41⟩; refine⟨_,rfl,?_⟩
 have hlo45:Below wB.heap.size w30 w39:=C41.lo ((Below.trans B29 hlo36)).size (fun g_ h_=>(O44.lt g_ h_).1)
 have hno47:¬Q42 w5.heap.size:=N43.no hno27 (Blk.lt k37)
 have D48:=DeltaR.far D38 C41 (fun k_ h_=>Nat.lt_of_lt_of_le (M6.lt k_ h_).2 (b8).size)
 rw[fx6]at M40
 rw[fx5,errV_zero]
 refine xe0 2 [(1,pw g1 0),(35,bF)] ?_
 refine nl (cf (sk (sg (xr0 1 [(37,pw g1 0)] [35] ?_))))
 have B49:Below wB.heap.size wB w39:=(Below.trans (Below.trans B29 hlo36) hlo45)
 refine xc 17 ent17 [pw g1 0,sT (⟨#[97,110,110]⟩:ByteArray)] (M40.get bAnn (by decide) (hT.below B49) es (hE.below B49)) ?_
 rintro e w50 ⟨rfl,b51⟩; refine⟨_,rfl,?_⟩
 rw[fx7,fx9,errV_zero]
 refine xw 4 [] [(3,pw w50.heap.size 0),(39,.agg #[sT bAnn,i6 4,i6 4]),(40,.nilIface)] [37,38] (w50.alloc (.cells #[s0,i6 0,i6 0] 31)) [] trivial ?_
 obtain⟨w52,w56,b53,k54,z55⟩:=new_world w50 #[s0,i6 0,i6 0] 31
 rw[w56]
 refine xst (.agg #[sT bAnn,i6 4,i6 4]) k54 0 #[sT bAnn,i6 4,i6 4] (fun w57 g58 k59 z60=>?_)
 refine xr0 1 [(4,.nilIface)] [39,40] ?_
 refine nl (sg (xr0 1 [(42,pw g1 0)] [] ?_))
 have B63:Below wB.heap.size wB w57:=(bg (bt (bt B49 b51) b53) g58 ((bt B49 b51)).size)
 refine xc 17 ent17 [pw g1 0,sT (⟨#[98,111,98]⟩:ByteArray)] ((M40.below (bg (bt b51 b53) g58 (b51).size)).get bBob (by decide) (hT.below B63) es (hE.below B63)) ?_
 rintro e w64 ⟨rfl,b65⟩; refine⟨_,rfl,?_⟩
 rw[fx8,fx10,errV_zero]
 refine xw 4 [] [(5,pw w64.heap.size 0),(44,.agg #[sT bBob,i6 2,i6 6]),(45,.nilIface)] [42,43] (w64.alloc (.cells #[s0,i6 0,i6 0] 31)) [] trivial ?_
 obtain⟨w66,w70,b67,k68,z69⟩:=new_world w64 #[s0,i6 0,i6 0] 31
 rw[w70]
 refine xst (.agg #[sT bBob,i6 2,i6 6]) k68 0 #[sT bBob,i6 2,i6 6] (fun w71 g72 k73 z74=>?_)
 refine xe0 1 [(1,pw g1 0),(3,pw w50.heap.size 0),(4,.nilIface),(5,pw w64.heap.size 0),(6,.nilIface)] ?_
 refine nl (sq (X_gen (S:=fun w_=>RX.Blk w_ w50.heap.size 31 #[sT bAnn,i6 4,i6 4]∧RX.Blk w_ w64.heap.size 31 #[sT bBob,i6 2,i6 6]∧w_.cell? (⟨0,0,none⟩)=some (.iface 208 (.pointer (some (errAt es 16))))) [] 28 (tf 0 28) (by kernel_rfl) (by kernel_rfl) (by kernel_rfl) (fun wd77 b78 h79=>?_)))
 have B80:Below w57.heap.size w57 wd77:=(bt (bg (bt b65 b67) g72 (b65).size) b78)
 have B81:Below wB.heap.size wB wd77:=(bt (bg (bt (bt B63 b65) b67) g72 ((bt B63 b65)).size) b78)
 refine XG_runC (fuel':=10) ⟨(Blk.below k59 B80),(Blk.below k73 b78),((B81.cell (World.block_lt_of_cell? _ _ (hE.load 16 0 (by decide) (by decide) rfl))).trans (hE.load 16 0 (by decide) (by decide) rfl))⟩ [0,1,2,3,4,5,6,7,8,9,10,11,12,13,14,15,16,17] [(53,.load (.agg #[sT bAnn,i6 4,i6 4])),(55,.as bT),(58,.load (.agg #[sT bBob,i6 2,i6 6])),(60,.as bT)] [.nilIface,bT,bT,.nilIface,bT,bT,bT,.agg #[sT bAnn,i6 4,i6 4],.agg #[sT (⟨#[97,110,110]⟩:ByteArray),i6 4,i6 4],bT,bT,bT,.agg #[sT bBob,i6 2,i6 6],.agg #[sT (⟨#[98,111,98]⟩:ByteArray),i6 2,i6 6],bT,bT,bT,pw g1 0] (tf 18 10) [(62,bT),(63,pw g1 0)] [3,4,5,6] (fun w_=>[la 31 (⟨w50.heap.size,0,none⟩) (.agg #[sT bAnn,i6 4,i6 4]) w_,RunsAs Tryz.prog [(53,.agg #[sT bAnn,i6 4,i6 4]),(54,.agg #[sT (⟨#[97,110,110]⟩:ByteArray),i6 4,i6 4])] (Go.Op.binOp Go.BinOp.eql 31 (Go.Operand.tmp 53) (Go.Operand.tmp 54) 31) 4 bT w_,la 31 (⟨w64.heap.size,0,none⟩) (.agg #[sT bBob,i6 2,i6 6]) w_,RunsAs Tryz.prog [(58,.agg #[sT bBob,i6 2,i6 6]),(59,.agg #[sT (⟨#[98,111,98]⟩:ByteArray),i6 2,i6 6])] (Go.Op.binOp Go.BinOp.eql 31 (Go.Operand.tmp 58) (Go.Operand.tmp 59) 31) 4 bT w_]) (fun w_ hC_=>⟨loadsB rfl rfl hC_.1 0 ⟨by kernel_rfl,by kernel_rfl⟩,runs_bin rfl rfl (run_eqGuard_agg _ _ _ _ _ _ _ (by kernel_rfl)) (mark_eqb (bAnn,4,4) _),loadsB rfl rfl hC_.2.1 0 ⟨by kernel_rfl,by kernel_rfl⟩,runs_bin rfl rfl (run_eqGuard_agg _ _ _ _ _ _ _ (by kernel_rfl)) (mark_eqb (bBob,2,6) _),trivial⟩) ?_
 refine XG_mid (fuel':=9) 18 (tf 19 9) _ rfl (by kernel_rfl) (by kernel_rfl) rfl ?_
 have B82:Below w39.heap.size w39 w64:=(bt (bg (bt b51 b53) g58 (b51).size) b65)
 have B83:Below w39.heap.size w39 wd77:=(bt (bg (bt B82 b67) g72 (B82).size) b78)
 refine xc 26 ent26 [pw g1 0] ((M40.below B83).len) ?_
 rintro e w84 ⟨rfl,b85⟩; refine⟨_,rfl,?_⟩
 refine nl ?_
 refine⟨⟨(Blk.below k59 (bt B80 b85)),(Blk.below k73 (bt b78 b85)),(((bt B81 b85).cell (World.block_lt_of_cell? _ _ (hE.load 16 0 (by decide) (by decide) rfl))).trans (hE.load 16 0 (by decide) (by decide) rfl))⟩,?_⟩
 refine XG_runC (fuel':=4) ⟨(Blk.below k59 (bt B80 b85)),(Blk.below k73 (bt b78 b85)),(((bt B81 b85).cell (World.block_lt_of_cell? _ _ (hE.load 16 0 (by decide) (by decide) rfl))).trans (hE.load 16 0 (by decide) (by decide) rfl))⟩ [19,20,21,22,24] [(70,.load (.iface 208 (.pointer (some (errAt es 16)))))] [bT,bT,bT,pw g1 0,.iface 208 (.pointer (some (errAt es 16)))] #[true,true,true,true,true,true,true,true,true,true,true,true,true,true,true,true,true,true,true,true,true,true,true,false,true,false,false,false] [(67,bT),(68,pw g1 0),(70,.iface 208 (.pointer (some (errAt es 16))))] [1,62,63,64] (fun w_=>[la 45 (⟨0,0,none⟩) (.iface 208 (.pointer (some (errAt es 16)))) w_]) (fun w_ hC_=>⟨loads1 rfl hC_.2.2,trivial⟩) ?_
 refine XG_mid (fuel':=3) 23 (tf 25 3) _ rfl (by kernel_rfl) (by kernel_rfl) rfl ?_
 have O91:=(M40.below (bt B83 b85))
 refine xc 25 ent25 [pw g1 0,sT (⟨#[101,118,101]⟩:ByteArray)] (O91.drop bEve (by decide) (hT.below (bt B81 b85)) es (hE.below (bt B81 b85))) ?_
 rintro e w86 ⟨rfl,M87,C88⟩; refine⟨_,rfl,?_⟩
 have hlo92:Below wB.heap.size w84 w86:=C88.lo ((bt B81 b85)).size (fun g_ h_=>(O91.lt g_ h_).1)
 have k94:=C88.blk (Blk.below k59 (bt B80 b85)) (fun h_=>absurd (M40.lt _ h_).2 (Nat.not_lt.2 (b51).size))
 have hno95:¬Q42 w50.heap.size:=(fun h_=>absurd (M40.lt _ h_).2 (Nat.not_lt.2 (b51).size))
 have k96:=C88.blk (Blk.below k73 (bt b78 b85)) (fun h_=>absurd (M40.lt _ h_).2 (Nat.not_lt.2 (B82).size))
 have hno97:¬Q42 w64.heap.size:=(fun h_=>absurd (M40.lt _ h_).2 (Nat.not_lt.2 (B82).size))
 rw[fx11,errV_pos es 16 (by decide)]
 refine nl ?_
 refine⟨⟨k94,k96,(((Below.trans (bt B81 b85) hlo92).cell (World.block_lt_of_cell? _ _ (hE.load 16 0 (by decide) (by decide) rfl))).trans (hE.load 16 0 (by decide) (by decide) rfl))⟩,?_⟩
 refine XG_run (fuel':=0) ⟨k94,k96,(((Below.trans (bt B81 b85) hlo92).cell (World.block_lt_of_cell? _ _ (hE.load 16 0 (by decide) (by decide) rfl))).trans (hE.load 16 0 (by decide) (by decide) rfl))⟩ [25,26,27] [(71,.as bT)] [bT,bT,bT] (tf 28 0) [(0,bT)] (fun w_=>[RunsAs Tryz.prog [(69,.iface 208 (.pointer (some (errAt es 16)))),(70,.iface 208 (.pointer (some (errAt es 16))))] (Go.Op.binOp Go.BinOp.eql 45 (Go.Operand.tmp 69) (Go.Operand.tmp 70) 45) 4 bT w_]) (fun w_ hC_=>⟨runs_bin rfl rfl rfl (err_self es 16 _),trivial⟩) ?_
 refine XG_done (by kernel_rfl) ?_
 refine X_ret (rj [bT] hR_ ?_)
 exact⟨rfl,(Below.trans (bt B81 b85) hlo92)⟩
end Go.Proofs.YtlnnjfdonilgmaaGreatDoor
