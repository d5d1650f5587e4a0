import Derived.Test.YtlnnjfdonilgmaaGreatDoorMv
import Derived.Test.YtlnnjfdonilgmaaGreatDoorK3
import Derived.Test.YtlnnjfdonilgmaaGreatDoorRwk
/- Marks carried over a delta into a map: plain law, and what the loop keeps. No condition. -/
set_option linter.unusedVariables false
set_option linter.unusedSimpArgs false
namespace Go.Proofs.YtlnnjfdonilgmaaGreatDoor
open Go Go.RowKit Go.Proofs.YtlnnjfdonilgmaaGreatDoorW.PrintWords RX
noncomputable def mvF (xs:List OpA) (au:ByteArray) (ms:List MarkA):List MarkA:=ms.foldl (fun l x=>mPut l (mvMk xs au x)) []
theorem mvF_snoc (xs:List OpA)(au:ByteArray)(ms:List MarkA)(x:MarkA):mvF xs au (ms++[x])=mPut (mvF xs au ms) (mvMk xs au x):=by
  unfold mvF
  rw[List.foldl_append]; rfl
theorem mvF_len (xs:List OpA)(au:ByteArray)(ms:List MarkA):(mvF xs au ms).length≤ms.length:=by
  suffices h:∀ l:List MarkA,(ms.foldl (fun l x=>mPut l (mvMk xs au x)) l).length≤l.length+ms.length by
    have h1:=h []
    rw[List.length_nil,Nat.zero_add]at h1
    exact h1
  induction ms with
  | nil=>exact fun l=>Nat.le_refl _
  | cons x r ih=>
    intro l
    have h1:=ih (mPut l (mvMk xs au x))
    have h2:=mput_len l (mvMk xs au x)
    rw[List.foldl_cons,List.length_cons]
    split at h2<;>omega
theorem mvF_all {xs:List OpA}{au:ByteArray}{ms:List MarkA}(hR:RisM ms):mvF xs au ms=ms.map (mvMk xs au):=by
  suffices h:∀ i,i≤ms.length→mvF xs au (ms.take i)=(ms.take i).map (mvMk xs au) by
    have:=h _ (Nat.le_refl _)
    rwa [List.take_length]at this
  intro i
  induction i with
  | zero=>intro _; rw[List.take_zero]; rfl
  | succ i ih=>
    intro hi
    rw[←take_snocM (show i<ms.length by omega),mvF_snoc,ih (by omega),mput_snoc hR (by omega),←mv_snoc (by omega),List.map_append]; rfl
def MvI (w:World)(g4 g5 g6 g7 B7 d:Nat)(xs:List OpA)(au:ByteArray)(pre:List MarkA)(M:Nat→Prop)(W:World):Prop:=
  RX.Blk W g4 39 #[.pointer (some ⟨d,0,none⟩)]∧RX.Blk W g5 9 #[.string au]∧RX.Blk W g6 45 #[.nilIface]∧RX.Blk W g7 71 #[.map (some B7)]∧MapL Tryz.prog 9 markR W B7 (mL (mvF xs au pre))∧(∀ y∈pre,mvOk xs au y)∧M=(· =B7)∧Below w.heap.size w W
theorem MvI.own {w:World}{g4 g5 g6 g7 B7 d B:Nat}{xs:List OpA}{au:ByteArray}(h:w.heap.size≤B)(hB:B7<B)(M:Nat→Prop):OwnFrom B (fun s W=>MvI w g4 g5 g6 g7 B7 d xs au s M W):=by
  rintro s W W' row ⟨h1,h2,h3,h4,h5,h6,h7,h8⟩ hg hr
  exact⟨RX.ownFrom_blk (β:=Unit) (B:=B) (fun _=>g4) _ (fun _=>_) () W W' row h1 hg hr,RX.ownFrom_blk (β:=Unit) (B:=B) (fun _=>g5) _ (fun _=>_) () W W' row h2 hg hr,RX.ownFrom_blk (β:=Unit) (B:=B) (fun _=>g6) _ (fun _=>_) () W W' row h3 hg hr,RX.ownFrom_blk (β:=Unit) (B:=B) (fun _=>g7) _ (fun _=>_) () W W' row h4 hg hr,ownFrom_map (β:=Unit) hB (fun _=>_) () W W' row h5 hg hr,h6,h7,RX.ownFrom_below' (β:=Unit) w h () W W' row h8 hg hr⟩
def MvX (w:World)(g6:Nat)(xs:List OpA)(au:ByteArray)(ev:Value)(c:Code)(pre:List MarkA)(W:World):Prop:=
  c=.ret∧(∃ p y,pre=p++[y]∧¬mvOk xs au y)∧RX.Blk W g6 45 #[ev]∧Below w.heap.size w W
theorem MvX.own {w:World}{g6 B:Nat}{xs:List OpA}{au:ByteArray}{ev:Value}(h:w.heap.size≤B)(c:Code):OwnFrom B (MvX w g6 xs au ev c):=by
  rintro s W W' row ⟨h1,h2,h3,h4⟩ hg hr
  exact⟨h1,h2,RX.ownFrom_blk (β:=Unit) (B:=B) (fun _=>g6) _ (fun _=>_) () W W' row h3 hg hr,RX.ownFrom_below' (β:=Unit) w h () W W' row h4 hg hr⟩
theorem MvX.no {w W:World}{g6:Nat}{xs:List OpA}{au:ByteArray}{ev:Value}{c:Code}{pre ms:List MarkA}(h:MvX w g6 xs au ev c pre W)(hS:pre=ms.take pre.length):¬∀ m∈ms,mvOk xs au m:=by
  obtain⟨_,⟨p,y,rfl,hy⟩,_⟩:=h
  exact fun h2=>hy (h2 y (List.mem_of_mem_take (by rw[←hS]; simp)))
theorem Off.map {P:Program}{kt:TypeId}{R:MapR}{ds:List Nat}{w w':World}{B:Nat}{L:List (Lit×DataW Unit)}(h:Off ds w w')(hD:Defs ds w)(hm:MapL P kt R w B L):MapL P kt R w' B L:=by
  obtain⟨es,clock,hk,r⟩:=hm
  refine⟨es,clock,(h.block B fun hb=>?_).trans hk,r⟩
  have e1:=(hD B hb).symm.trans hk
  cases e1
theorem Off.chg {S:Nat→Prop}{ds:List Nat}{w0 w w':World}(h:Off ds w w')(hb:Chg S w0 w)(hd:∀ D∈ds,w0.heap.size≤D):Chg S w0 w':=
  hb.trans (S':=fun k=>k∈ds) ⟨h.os,h.tape,h.output,by rw[h.size]; exact Nat.le_refl _,fun k hk hn=>h.block k hn⟩ fun g h1 h2=>absurd (hd g h2) (Nat.not_le.2 h1)
set_option maxRecDepth 100000
theorem ent40 :Ent Tryz.prog 40:=ent_of Tryz.func40 (by kernel_rfl) rfl
theorem ent55 :Ent Tryz.prog 55:=ent_of Tryz.func55 (by kernel_rfl) rfl
theorem vals_any (A:Option Addr)(n c:Nat)(w:World):Calls Tryz.prog 40 #[.slice A n c] w fun e w'=>∃ g,e=.returned (.func (.func 55) #[] #[pw g 0])∧w.heap.size≤g∧RX.Blk w' g 27 #[.slice A n c]∧Below w.heap.size w w':=by
 refine en Tryz.func40 rfl 4 [(0,.slice A n c)] (fun R_ hR_=>?_)
 refine sg (xwe 1 [] [(1,pw w.heap.size 0)] (w.alloc (.cells #[.slice A n c] 27)) [] trivial ?_)
 obtain⟨w_1,w5,b2,k3,z4⟩:=new_world w #[.slice A n c] 27
 rw[w5]
 refine xr0 1 [] [] ?_
 refine nl (sg (xe0 2 [(2,.func (.func 55) #[] #[pw w.heap.size 0])] ?_))
 refine nl (X_ret (rj [.func (.func 55) #[] #[pw w.heap.size 0]] hR_ ?_))
 exact⟨_,rfl,(Nat.le_refl _),k3,b2⟩
set_option maxHeartbeats 1000000 in
theorem vals_seq (D okD:Nat→Prop)(b0 g:Nat)(A:Option Addr)(c:Nat)(ms:List MarkA)(w1:World)(hx:kMark.R 31 w1 b0 okD (.slice A ms.length c) ms)(hokD:∀ k,okD k→D k)(hD:∀ k,D k→k<w1.heap.size)(hn:ms.length≤1000)(hk:RX.Blk w1 g 27 #[.slice A ms.length c]):
  SeqM D Tryz.prog 55 #[pw g 0] (fun x:MarkA=>#[mV x]) (fun ys=>ys=ms) (fun pre=>pre=ms.take pre.length∧pre.length≤ms.length) (fun x_ _=>x_∈ms) ms.length w1:=by
 intro lp J Jx M0 W hW hJ hJx hMb hY jJ0
 have hJb:∀ s M (X Y:World),Below X.heap.size X Y→J s M X→J s M Y:=fun s M X Y hb hj=>abides_below (hJ M) hb hj
 refine callsIn_wide.2 ?_
 rw[show (#[Value.func (.yield lp) #[] #[]]++#[pw g 0]:Array Value)=#[.func (.yield lp) #[] #[],pw g 0]from rfl]
 refine en Tryz.func55 rfl 16 [(0,.func (.yield lp) #[] #[]),(1,pw g 0)] (fun R_ hR_=>?_)
 refine sg (xe1 3 [(5,.load (aL A ms c))] [(0,.func (.yield lp) #[] #[]),(5,aL A ms c),(6,i6 (ms.length:Int)),(7,i6 0)] (lc 27 (Blk.below hk hW) 0) ?_)
 refine nl (X_block ?_)
 have hx0_:=Kd.R_below hx hW
 refine X_loop (ι:=Nat×List MarkA×(Nat→Prop)) (fun⟨i,pre,M⟩=>[(0,.func (.yield lp) #[] #[]),(5,aL A ms c),(6,i6 (ms.length:Int)),(7,i6 (i:Int))]) (fun⟨i,pre,M⟩ wl=>i≤ms.length∧pre=ms.take i∧J pre M wl∧kMark.R 31 wl b0 okD (aL A ms c) ms) (fun⟨i,pre,M⟩=>ms.length-i) (0,[],M0) ⟨by omega,rfl,jJ0,hx0_⟩ (by kernel_rfl) ?_
 rintro⟨i,pre,M⟩ wl ⟨hi_,hpre,hJ1,hr1⟩
 refine sq (X_region ?_)
 by_cases c1:(i:Int)<(ms.length:Int)
 ·refine xr1 1 [(8,.eq bT)] [(8,bT)] [] (dT c1) ?_
  refine nl (sq (ct (sk (sq (bk (sq (X_region ?_)))))))
  obtain⟨ad2,a3,c4⟩:=Kd.atMark (Kd.R_C hr1) (i:=(i:Int)) (by omega) (by omega)
  replace c4:CellsAt wl (ad2.add ((i:Int).toNat*3)) [sT ((ms.getD i mark0).1),i6 ((ms.getD i mark0).2.1),i6 ((ms.getD i mark0).2.2)]:=c4
  refine xw 3 [(9,.idx ad2),(10,.load (.agg #[sT ((ms.getD i mark0).1),i6 ((ms.getD i mark0).2.1),i6 ((ms.getD i mark0).2.2)]))] [(4,pw wl.heap.size 0),(10,.agg #[sT ((ms.getD i mark0).1),i6 ((ms.getD i mark0).2.1),i6 ((ms.getD i mark0).2.2)])] [8] (wl.alloc (.cells #[s0,i6 0,i6 0] 31)) [A=some ad2,(0:Int)≤(i:Int),(i:Int)<(ms.length:Int),la 31 (ad2.add ((i:Int).toNat*3)) (.agg #[sT ((ms.getD i mark0).1),i6 ((ms.getD i mark0).2.1),i6 ((ms.getD i mark0).2.2)]) wl] ⟨a3,(by omega),(by omega),loadsE rfl rfl c4 0 ⟨by kernel_rfl,by kernel_rfl⟩,trivial⟩ ?_
  obtain⟨w_5,w9,b6,k7,z8⟩:=new_world wl #[s0,i6 0,i6 0] 31
  rw[w9]
  refine xst (.agg #[sT ((ms.getD i mark0).1),i6 ((ms.getD i mark0).2.1),i6 ((ms.getD i mark0).2.2)]) k7 0 #[sT ((ms.getD i mark0).1),i6 ((ms.getD i mark0).2.1),i6 ((ms.getD i mark0).2.2)] (fun w10 g11 k12 z13=>?_)
  refine nl (sq (X_regionI ?_))
  refine XLI_pre 2 (by kernel_rfl) (fun _ _ h_=>h_) ?_
  refine xr 2 [(12,.load (.agg #[sT ((ms.getD i mark0).1),i6 ((ms.getD i mark0).2.1),i6 ((ms.getD i mark0).2.2)]))] [(11,.func (.yield lp) #[] #[]),(12,.agg #[sT ((ms.getD i mark0).1),i6 ((ms.getD i mark0).2.1),i6 ((ms.getD i mark0).2.2)])] [4,10] [la 31 (⟨wl.heap.size,0,none⟩) (.agg #[sT ((ms.getD i mark0).1),i6 ((ms.getD i mark0).2.1),i6 ((ms.getD i mark0).2.2)]) w10] ⟨loadsB rfl rfl k12 0 ⟨by kernel_rfl,by kernel_rfl⟩,trivial⟩ ?_
  refine nl ?_
  have hjw_:=(hJb _ _ _ _ (bg b6 g11 (Nat.le_refl _)) hJ1)
  have hrw_:=(Kd.R_below hr1 (bg b6 g11 (Nat.le_refl _)))
  have hil_:i<ms.length:=by omega
  have hpre3_:pre++[(ms.getD i mark0)]=ms.take (i+1):=by rw[hpre]; exact take_snocM hil_
  have hpl_:pre.length=i:=by rw[hpre,List.length_take]; omega
  refine XLI_yield rfl rfl rfl rfl [.agg #[sT ((ms.getD i mark0).1),i6 ((ms.getD i mark0).2.1),i6 ((ms.getD i mark0).2.2)]] (by kernel_rfl) (hY pre M (ms.getD i mark0) _ hjw_ (getD_mem mark0 hil_) (by omega)) ?_
  rintro e w14 (⟨rfl,M3_,hJ3_,hK3_,hM3_⟩|⟨rfl,hJ3_⟩)
  ·refine⟨_,rfl,?_⟩
   have hr3_:=hK3_.rowD hrw_ hokD
   refine XLI_of (by kernel_rfl) (fun _ _ h_=>h_) ?_
   refine xr0 1 [(14,bF)] [11,12,13] ?_
   refine nl (cf (sk (rg (xr1 2 [(15,.eq (i6 ((i:Int)+1)))] [(7,i6 ((i:Int)+1))] [14] (w6 ((i:Int)+1)) ?_))))
   refine nl ?_
   refine⟨(i+1,(pre++[(ms.getD i mark0)]),M3_),by kernel_rfl,?_,?_⟩
   ·exact⟨by omega,hpre3_,hJ3_,hr3_⟩
   (try dsimp only); omega
  refine⟨_,rfl,?_⟩
  refine XLI_of (by kernel_rfl) (fun _ _ h_=>h_) ?_
  refine xr0 1 [(14,bT)] [11,12,13] ?_
  refine nl (ct (X_ret (rj [] hR_ ?_)))
  have hl3_:(pre++[(ms.getD i mark0)]).length=i+1:=by rw[List.length_append,List.length_singleton,hpl_]
  exact⟨⟨_,rfl⟩,.inr ⟨_,⟨by rw[hl3_]; exact hpre3_,by omega⟩,hJ3_⟩⟩
 refine xr1 1 [(8,.eq bF)] [(8,bF)] [] (dF c1) ?_
 refine nl (sq (cf (X_exit (ek [] (hR_ _ _ ?_)))))
 have hxi:ms.take i=ms:=List.take_of_length_le (by omega)
 exact⟨⟨_,rfl⟩,.inl ⟨pre,M,by rw[hpre,hxi],hJ1⟩⟩
end Go.Proofs.YtlnnjfdonilgmaaGreatDoor
