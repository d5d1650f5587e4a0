import Derived.Test.YtlnnjfdonilgmaaGreatDoorK2
import Derived.Test.YtlnnjfdonilgmaaGreatDoorK3
import Derived.Test.YtlnnjfdonilgmaaGreatDoorMk
import Derived.Test.YtlnnjfdonilgmaaGreatDoorShelfI
import Derived.Test.YtlnnjfdonilgmaaGreatDoorA1
import Derived.Test.YtlnnjfdonilgmaaGreatDoorMap
/- Marks carried over a delta into a map: plain law, and what the loop keeps. No condition. -/
set_option linter.unusedVariables false
set_option linter.unusedSimpArgs false
namespace Go.Proofs.YtlnnjfdonilgmaaGreatDoor
open Go Go.RowKit Go.Proofs.YtlnnjfdonilgmaaGreatDoorW.PrintWords RX
noncomputable def mvF (xs:List OpA) (au:ByteArray) (ms:List MarkA):List MarkA:=ms.foldl (fun l x=>mPut l (mvMk xs au x)) []
theorem mvF_snoc (xs:List OpA)(au:ByteArray)(ms:List MarkA)(x:MarkA):mvF xs au (ms++[x])=mPut (mvF xs au ms) (mvMk xs au x):=by
  unfold mvF
  rw[List.foldl_append]; rfl
theorem mvF_len (xs:List OpA)(au:ByteArray)(ms:List MarkA):(mvF xs au ms).length≤ms.length:=by
  suffices h:∀ l:List MarkA,(ms.foldl (fun l x=>mPut l (mvMk xs au x)) l).length≤l.length+ms.length by
    have h1:=h []
    rw[List.length_nil,Nat.zero_add]at h1
    exact h1
  induction ms with
  | nil=>exact fun l=>Nat.le_refl _
  | cons x r ih=>
    intro l
    have h1:=ih (mPut l (mvMk xs au x))
    have h2:=mput_len l (mvMk xs au x)
    rw[List.foldl_cons,List.length_cons]
    split at h2<;>omega
theorem mvF_all {xs:List OpA}{au:ByteArray}{ms:List MarkA}(hR:RisM ms):mvF xs au ms=ms.map (mvMk xs au):=by
  suffices h:∀ i,i≤ms.length→mvF xs au (ms.take i)=(ms.take i).map (mvMk xs au) by
    have:=h _ (Nat.le_refl _)
    rwa [List.take_length]at this
  intro i
  induction i with
  | zero=>intro _; rw[List.take_zero]; rfl
  | succ i ih=>
    intro hi
    rw[←take_snocM (show i<ms.length by omega),mvF_snoc,ih (by omega),mput_snoc hR (by omega),←mv_snoc (by omega),List.map_append]; rfl
def MvI (w:World)(g4 g5 g6 g7 B7 d:Nat)(xs:List OpA)(au:ByteArray)(pre:List MarkA)(M:Nat→Prop)(W:World):Prop:=
  RX.Blk W g4 39 #[.pointer (some ⟨d,0,none⟩)]∧RX.Blk W g5 9 #[.string au]∧RX.Blk W g6 45 #[.nilIface]∧RX.Blk W g7 71 #[.map (some B7)]∧MapL Tryz.prog 9 markR W B7 (mL (mvF xs au pre))∧(∀ y∈pre,mvOk xs au y)∧M=(· =B7)∧Below w.heap.size w W
theorem MvI.own {w:World}{g4 g5 g6 g7 B7 d B:Nat}{xs:List OpA}{au:ByteArray}(h:w.heap.size≤B)(hB:B7<B)(M:Nat→Prop):OwnFrom B (fun s W=>MvI w g4 g5 g6 g7 B7 d xs au s M W):=by
  rintro s W W' row ⟨h1,h2,h3,h4,h5,h6,h7,h8⟩ hg hr
  exact⟨RX.ownFrom_blk (β:=Unit) (B:=B) (fun _=>g4) _ (fun _=>_) () W W' row h1 hg hr,RX.ownFrom_blk (β:=Unit) (B:=B) (fun _=>g5) _ (fun _=>_) () W W' row h2 hg hr,RX.ownFrom_blk (β:=Unit) (B:=B) (fun _=>g6) _ (fun _=>_) () W W' row h3 hg hr,RX.ownFrom_blk (β:=Unit) (B:=B) (fun _=>g7) _ (fun _=>_) () W W' row h4 hg hr,ownFrom_map (β:=Unit) hB (fun _=>_) () W W' row h5 hg hr,h6,h7,RX.ownFrom_below' (β:=Unit) w h () W W' row h8 hg hr⟩
def MvX (w:World)(g6:Nat)(xs:List OpA)(au:ByteArray)(ev:Value)(c:Code)(pre:List MarkA)(W:World):Prop:=
  c=.ret∧(∃ p y,pre=p++[y]∧¬mvOk xs au y)∧RX.Blk W g6 45 #[ev]∧Below w.heap.size w W
theorem MvX.own {w:World}{g6 B:Nat}{xs:List OpA}{au:ByteArray}{ev:Value}(h:w.heap.size≤B)(c:Code):OwnFrom B (MvX w g6 xs au ev c):=by
  rintro s W W' row ⟨h1,h2,h3,h4⟩ hg hr
  exact⟨h1,h2,RX.ownFrom_blk (β:=Unit) (B:=B) (fun _=>g6) _ (fun _=>_) () W W' row h3 hg hr,RX.ownFrom_below' (β:=Unit) w h () W W' row h4 hg hr⟩
theorem MvX.no {w W:World}{g6:Nat}{xs:List OpA}{au:ByteArray}{ev:Value}{c:Code}{pre ms:List MarkA}(h:MvX w g6 xs au ev c pre W)(hS:pre=ms.take pre.length):¬∀ m∈ms,mvOk xs au m:=by
  obtain⟨_,⟨p,y,rfl,hy⟩,_⟩:=h
  exact fun h2=>hy (h2 y (List.mem_of_mem_take (by rw[←hS]; simp)))
theorem Off.map {P:Program}{kt:TypeId}{R:MapR}{ds:List Nat}{w w':World}{B:Nat}{L:List (Lit×DataW Unit)}(h:Off ds w w')(hD:Defs ds w)(hm:MapL P kt R w B L):MapL P kt R w' B L:=by
  obtain⟨es,clock,hk,r⟩:=hm
  refine⟨es,clock,(h.block B fun hb=>?_).trans hk,r⟩
  have e1:=(hD B hb).symm.trans hk
  cases e1
theorem Off.chg {S:Nat→Prop}{ds:List Nat}{w0 w w':World}(h:Off ds w w')(hb:Chg S w0 w)(hd:∀ D∈ds,w0.heap.size≤D):Chg S w0 w':=
  hb.trans (S':=fun k=>k∈ds) ⟨h.os,h.tape,h.output,by rw[h.size]; exact Nat.le_refl _,fun k hk hn=>h.block k hn⟩ fun g h1 h2=>absurd (hd g h2) (Nat.not_le.2 h1)
set_option maxRecDepth 100000
theorem ent40 :Ent Tryz.prog 40:=ent_of Tryz.func40 (by kernel_rfl) rfl
theorem ent55 :Ent Tryz.prog 55:=ent_of Tryz.func55 (by kernel_rfl) rfl
theorem vals_any (A:Option Addr)(n c:Nat)(w:World):Calls Tryz.prog 40 #[.slice A n c] w fun e w'=>∃ g,e=.returned (.func (.func 55) #[] #[pw g 0])∧w.heap.size≤g∧RX.Blk w' g 27 #[.slice A n c]∧Below w.heap.size w w':=by
 refine en Tryz.func40 rfl 4 [(0,.slice A n c)] (fun R_ hR_=>?_)
 refine sg (xwe 1 [] [(1,pw w.heap.size 0)] (w.alloc (.cells #[.slice A n c] 27)) [] trivial ?_)
 obtain⟨w_1,w5,b2,k3,z4⟩:=new_world w #[.slice A n c] 27
 rw[w5]
 refine xr0 1 [] [] ?_
 refine nl (sg (xe0 2 [(2,.func (.func 55) #[] #[pw w.heap.size 0])] ?_))
 refine nl (X_ret (rj [.func (.func 55) #[] #[pw w.heap.size 0]] hR_ ?_))
 exact⟨_,rfl,(Nat.le_refl _),k3,b2⟩
set_option maxHeartbeats 1000000 in
theorem vals_seq (D okD:Nat→Prop)(b0 g:Nat)(A:Option Addr)(c:Nat)(ms:List MarkA)(w1:World)(hx:kMark.R 31 w1 b0 okD (.slice A ms.length c) ms)(hokD:∀ k,okD k→D k)(hD:∀ k,D k→k<w1.heap.size)(hn:ms.length≤1000)(hk:RX.Blk w1 g 27 #[.slice A ms.length c]):
  SeqM D Tryz.prog 55 #[pw g 0] (fun x:MarkA=>#[mV x]) (fun ys=>ys=ms) (fun pre=>pre=ms.take pre.length∧pre.length≤ms.length) (fun x_ _=>x_∈ms) ms.length w1:=by
 intro lp J Jx M0 W hW hJ hJx hMb hY jJ0
 have hJb:∀ s M (X Y:World),Below X.heap.size X Y→J s M X→J s M Y:=fun s M X Y hb hj=>abides_below (hJ M) hb hj
 refine callsIn_wide.2 ?_
 rw[show (#[Value.func (.yield lp) #[] #[]]++#[pw g 0]:Array Value)=#[.func (.yield lp) #[] #[],pw g 0]from rfl]
 refine en Tryz.func55 rfl 16 [(0,.func (.yield lp) #[] #[]),(1,pw g 0)] (fun R_ hR_=>?_)
 refine sg (xe1 3 [(5,.load (aL A ms c))] [(0,.func (.yield lp) #[] #[]),(5,aL A ms c),(6,i6 (ms.length:Int)),(7,i6 0)] (lc 27 (Blk.below hk hW) 0) ?_)
 refine nl (X_block ?_)
 have hx0_:=Kd.R_below hx hW
 refine X_loop (ι:=Nat×List MarkA×(Nat→Prop)) (fun⟨i,pre,M⟩=>[(0,.func (.yield lp) #[] #[]),(5,aL A ms c),(6,i6 (ms.length:Int)),(7,i6 (i:Int))]) (fun⟨i,pre,M⟩ wl=>i≤ms.length∧pre=ms.take i∧J pre M wl∧kMark.R 31 wl b0 okD (aL A ms c) ms) (fun⟨i,pre,M⟩=>ms.length-i) (0,[],M0) ⟨by omega,rfl,jJ0,hx0_⟩ (by kernel_rfl) ?_
 rintro⟨i,pre,M⟩ wl ⟨hi_,hpre,hJ1,hr1⟩
 refine sq (X_region ?_)
 by_cases c1:(i:Int)<(ms.length:Int)
 ·refine xr1 1 [(8,.eq bT)] [(8,bT)] [] (dT c1) ?_
  refine nl (sq (ct (sk (sq (bk (sq (X_region ?_)))))))
  obtain⟨ad2,a3,c4⟩:=Kd.atMark (Kd.R_C hr1) (i:=(i:Int)) (by omega) (by omega)
  replace c4:CellsAt wl (ad2.add ((i:Int).toNat*3)) [sT ((ms.getD i mark0).1),i6 ((ms.getD i mark0).2.1),i6 ((ms.getD i mark0).2.2)]:=c4
  refine xw 3 [(9,.idx ad2),(10,.load (.agg #[sT ((ms.getD i mark0).1),i6 ((ms.getD i mark0).2.1),i6 ((ms.getD i mark0).2.2)]))] [(4,pw wl.heap.size 0),(10,.agg #[sT ((ms.getD i mark0).1),i6 ((ms.getD i mark0).2.1),i6 ((ms.getD i mark0).2.2)])] [8] (wl.alloc (.cells #[s0,i6 0,i6 0] 31)) [A=some ad2,(0:Int)≤(i:Int),(i:Int)<(ms.length:Int),la 31 (ad2.add ((i:Int).toNat*3)) (.agg #[sT ((ms.getD i mark0).1),i6 ((ms.getD i mark0).2.1),i6 ((ms.getD i mark0).2.2)]) wl] ⟨a3,(by omega),(by omega),loadsE rfl rfl c4 0 ⟨by kernel_rfl,by kernel_rfl⟩,trivial⟩ ?_
  obtain⟨w_5,w9,b6,k7,z8⟩:=new_world wl #[s0,i6 0,i6 0] 31
  rw[w9]
  refine xst (.agg #[sT ((ms.getD i mark0).1),i6 ((ms.getD i mark0).2.1),i6 ((ms.getD i mark0).2.2)]) k7 0 #[sT ((ms.getD i mark0).1),i6 ((ms.getD i mark0).2.1),i6 ((ms.getD i mark0).2.2)] (fun w10 g11 k12 z13=>?_)
  refine nl (sq (X_regionI ?_))
  refine XLI_pre 2 (by kernel_rfl) (fun _ _ h_=>h_) ?_
  refine xr 2 [(12,.load (.agg #[sT ((ms.getD i mark0).1),i6 ((ms.getD i mark0).2.1),i6 ((ms.getD i mark0).2.2)]))] [(11,.func (.yield lp) #[] #[]),(12,.agg #[sT ((ms.getD i mark0).1),i6 ((ms.getD i mark0).2.1),i6 ((ms.getD i mark0).2.2)])] [4,10] [la 31 (⟨wl.heap.size,0,none⟩) (.agg #[sT ((ms.getD i mark0).1),i6 ((ms.getD i mark0).2.1),i6 ((ms.getD i mark0).2.2)]) w10] ⟨loadsB rfl rfl k12 0 ⟨by kernel_rfl,by kernel_rfl⟩,trivial⟩ ?_
  refine nl ?_
  have hjw_:=(hJb _ _ _ _ (bg b6 g11 (Nat.le_refl _)) hJ1)
  have hrw_:=(Kd.R_below hr1 (bg b6 g11 (Nat.le_refl _)))
  have hil_:i<ms.length:=by omega
  have hpre3_:pre++[(ms.getD i mark0)]=ms.take (i+1):=by rw[hpre]; exact take_snocM hil_
  have hpl_:pre.length=i:=by rw[hpre,List.length_take]; omega
  refine XLI_yield rfl rfl rfl rfl [.agg #[sT ((ms.getD i mark0).1),i6 ((ms.getD i mark0).2.1),i6 ((ms.getD i mark0).2.2)]] (by kernel_rfl) (hY pre M (ms.getD i mark0) _ hjw_ (getD_mem mark0 hil_) (by omega)) ?_
  rintro e w14 (⟨rfl,M3_,hJ3_,hK3_,hM3_⟩|⟨rfl,hJ3_⟩)
  ·refine⟨_,rfl,?_⟩
   have hr3_:=hK3_.rowD hrw_ hokD
   refine XLI_of (by kernel_rfl) (fun _ _ h_=>h_) ?_
   refine xr0 1 [(14,bF)] [11,12,13] ?_
   refine nl (cf (sk (rg (xr1 2 [(15,.eq (i6 ((i:Int)+1)))] [(7,i6 ((i:Int)+1))] [14] (w6 ((i:Int)+1)) ?_))))
   refine nl ?_
   refine⟨(i+1,(pre++[(ms.getD i mark0)]),M3_),by kernel_rfl,?_,?_⟩
   ·exact⟨by omega,hpre3_,hJ3_,hr3_⟩
   (try dsimp only); omega
  refine⟨_,rfl,?_⟩
  refine XLI_of (by kernel_rfl) (fun _ _ h_=>h_) ?_
  refine xr0 1 [(14,bT)] [11,12,13] ?_
  refine nl (ct (X_ret (rj [] hR_ ?_)))
  have hl3_:(pre++[(ms.getD i mark0)]).length=i+1:=by rw[List.length_append,List.length_singleton,hpl_]
  exact⟨⟨_,rfl⟩,.inr ⟨_,⟨by rw[hl3_]; exact hpre3_,by omega⟩,hJ3_⟩⟩
 refine xr1 1 [(8,.eq bF)] [(8,bF)] [] (dF c1) ?_
 refine nl (sq (cf (X_exit (ek [] (hR_ _ _ ?_)))))
 have hxi:ms.take i=ms:=List.take_of_length_le (by omega)
 exact⟨⟨_,rfl⟩,.inl ⟨pre,M,by rw[hpre,hxi],hJ1⟩⟩
theorem ent24 :Ent Tryz.prog 24:=ent_of Tryz.func24 (by kernel_rfl) rfl
theorem ent39 :Ent Tryz.prog 39:=ent_of Tryz.func39 (by kernel_rfl) rfl
theorem ent38 :Ent Tryz.prog 38:=ent_of Tryz.func38 (by kernel_rfl) rfl
section
open Go.Maps Go.Sort Go.Shelf
theorem sortsP (m:Nat):AnyZ.SortsIn Tryz.prog Tryz.sorted38_ren Fence.wide m:=
 ⟨fun blk off cap ss W hH hblk hsz=>callsIn_wide.2 (AnyM.slices_Sort_string Tryz.sort53 blk off cap ss W hH hblk hsz),
   fun p cap W=>callsIn_wide.2 (AnyM.slices_Sort_string_none Tryz.sort53 p cap W)⟩
theorem mkeys_any (B:Nat)(w:World):Calls Tryz.prog 39 #[.map (some B)] w fun e w'=>e=.returned (.func (.func 54) #[] #[pw w.heap.size 0])∧w'=w.alloc (.cells #[.map (some B)] 71):=
 callsIn_wide.1 (AnyZ.keys_in Tryz.keys39 Fence.wide 5 trivial rfl (some B) w)
theorem sorted_in0 (b nn:Nat)(D0:DataW Unit)(R:MapR)(w:World)(hown:w.ownsMap Tryz.prog 9 R b nn D0)(hmax:Maps.size D0≤maxLen)(hbytes:Maps.size D0*16≤140737488355328):
  CallsIn Fence.wide 5 Tryz.prog 38 #[.func (.func 54) #[] #[pw w.heap.size 0]] (w.alloc (.cells #[.map (some b)] 71)) fun e w'=>∃ (v:Value) (ss:List (List UInt8)),e=.returned v∧ss.Perm (strKeys D0)∧
   w'.ownsRow (w.alloc (.cells #[.map (some b)] 71)).heap.size 9 1 v ss.length ((ss.mergeSort (fun x y=>decide (x≤y))).map Go.Proofs.encStr)∧(v=.slice none 0 0↔ss=[])∧Below (w.alloc (.cells #[.map (some b)] 71)).heap.size (w.alloc (.cells #[.map (some b)] 71)) w':=by
 have hbl:=World.ownsMap.lt hown
 have hseq:SeqGives Fence.wide 2 Tryz.prog 54 #[pw w.heap.size 0] Go.Proofs.encStr (fun ss=>ss.Perm (strKeys D0)) (Maps.size D0) (w.alloc (.cells #[.map (some b)] 71)):=
  AnyZ.keys_gives (ρ:=Tryz.keys39_ren) { Tryz.keys39 with } Fence.wide _ trivial rfl (by omega) w.heap.size b nn D0 _ (by simp) (by simp) (by
   obtain⟨es,clock,hb,Ft,hs,hD⟩:=hown
   exact⟨es,clock,(Below.heap_alloc _ _ b hbl).trans hb,Ft,hs,hD⟩)
 exact AnyZ.sorted_in Tryz.sorted38 Fence.wide 5 trivial trivial trivial trivial rfl (by omega) (sortsP _) (enters_of Tryz.func53 (by kernel_rfl) rfl) 54 #[pw w.heap.size 0] trivial (enters_of Tryz.func54 (by kernel_rfl) rfl) _ _ hmax hbytes _ hseq
theorem keys_sorted {ms:List MarkA}{ss:List (List UInt8)}(h:ss.Perm (strKeys (DataW.map (mL ms))))(hR:RisM ms):ss.mergeSort (fun x y=>decide (x≤y))=ms.map fun m=>m.1.data.toList:=by
 have hk:strKeys (DataW.map (mL ms))=ms.map fun m=>m.1.data.toList:=by simp[strKeys,mL,strOf]
 rw[hk]at h
 refine List.Perm.eq_of_pairwise (le:=fun a b=>decide (a≤b)=true) (fun a b _ _ h1 h2=>List.le_antisymm (of_decide_eq_true h1) (of_decide_eq_true h2)) (List.pairwise_mergeSort (le:=fun x y:List UInt8=>decide (x≤y)) (fun a b c h1 h2=>decide_eq_true (List.le_trans (of_decide_eq_true h1) (of_decide_eq_true h2))) (fun a b=>by have h3:=List.le_total a b; simpa using h3) ss) ?_ ((List.mergeSort_perm ss _).trans h)
 rw[List.pairwise_map]
 refine List.Pairwise.imp (fun {a b} h1=>?_) hR
 have h2:=kl_iff.1 h1
 rw[ByteArray.toList_eq,ByteArray.toList_eq]at h2
 exact decide_eq_true (List.le_of_lt h2)
theorem sk_len (ms:List MarkA):(strKeys (DataW.map (mL ms))).length=ms.length:=by simp[strKeys,mL]
end
theorem Kd.atStrM {w:World}{A:Option Addr}{n:Nat}{xs:List ByteArray}(h:Kd.string.C w A n xs){i:Int}(h0:0≤i)(h1:i<n):∃ ad,A=some ad∧CellsAt w (ad.add (i.toNat*1)) [sT (xs.getD i.toNat ByteArray.empty)]:=by
 obtain⟨ad,c,e,hK,hc⟩:=Kd.atC h ByteArray.empty h0 h1
 obtain rfl:=hK
 exact⟨ad,e,hc⟩
theorem reps_of {w:World}{base:Nat}{ok:Nat→Prop}(xs:List ByteArray):Reps (Kd.string.M w base ok) 1 xs (xs.map Value.string):=by
 have h:=reps_flatMap (R:=Kd.string.M w base ok) (size:=1) (fun s=>[Value.string s]) (fun _=>rfl) (fun _=>rfl) xs
 have e:∀ l:List ByteArray,l.flatMap (fun s=>[Value.string s])=l.map Value.string:=fun l=>by
  induction l with
  | nil=>rfl
  | cons x r ih=>rw[List.flatMap_cons,ih]; rfl
 rwa [e]at h
theorem msorted_any (B:Nat)(ms:List MarkA)(w:World)(hM:MapL Tryz.prog 9 markR w B (mL ms))(hn:ms.length≤1000):Calls Tryz.prog 38 #[.func (.func 54) #[] #[pw w.heap.size 0]] (w.alloc (.cells #[.map (some B)] 71)) fun e w'=>∃ A' c',e=.returned (.slice A' ms.length c')∧Kd.string.C w' A' ms.length (ms.map (·.1))∧Below w.heap.size w w':=by
 have hsz:Maps.size (DataW.map (mL ms))=ms.length:=by rw[Maps.size_eq]; exact List.length_map ..
 refine(callsIn_wide.1 (sorted_in0 B _ _ markR w hM (by rw[hsz]; unfold maxLen; omega) (by rw[hsz]; omega))).mono ?_
 rintro e w' ⟨v,ss,rfl,hp,ho,_,hb⟩
 rw[keys_sorted hp (MapL.risM hM (Maps.string_keyed Tryz.underlying9))]at ho
 have hl:ss.length=ms.length:=by rw[hp.length_eq,sk_len]
 have hi:(ms.map fun m=>m.1.data.toList).map Go.Proofs.encStr=(ms.map (·.1)).map Value.string:=by
  rw[List.map_map,List.map_map]
  exact List.map_congr_left fun m _=>by simp[Go.Proofs.encStr]
 rw[hi,hl]at ho
 have hbb:Below w.heap.size w w':=((Below.refl _ w).alloc (Nat.le_refl _) _).trans (bel_lo2 hb (by simp))
 have hR:Kd.string.R 9 w' (w.alloc (.cells #[.map (some B)] 71)).heap.size (fun _=>True) v (ms.map (·.1)):=⟨fun _ _=>trivial,_,by rw[List.length_map]; exact ho,reps_of _⟩
 obtain⟨A',c',rfl,hlc,hC⟩:=Kd.R_reads hR
 rw[List.length_map]at hC hlc ⊢
 exact⟨A',c',rfl,hC,hbb⟩
theorem getD_ks {ms:List MarkA}(h:∀ x∈ms,x.1.size≤9223372036854775807)(i:Nat):(ms.getD i mark0).1.size≤9223372036854775807:=by
 rcases Nat.lt_or_ge i ms.length with hi|hi
 ·exact h _ (getD_mem mark0 hi)
 rw[List.getD_eq_getElem?_getD,List.getElem?_eq_none hi]; exact Nat.zero_le _
theorem mIn_at {ms:List MarkA}(hR:RisM ms){i:Nat}(hi:i<ms.length):mIn ms (ms.getD i mark0).1∧mIx ms (ms.getD i mark0).1=i:=by
 have hlt:∀ t,t<i→kl (ms.getD t mark0).1 (ms.getD i mark0).1=true:=fun t ht=>by
  have:=List.pairwise_iff_getElem.1 hR t i (by omega) hi ht
  simpa [List.getD_eq_getElem?_getD,List.getElem?_eq_getElem hi,List.getElem?_eq_getElem (show t<ms.length by omega)] using this
 have hle:i≤mIx ms (ms.getD i mark0).1:=by
  rcases Nat.lt_or_ge (mIx ms (ms.getD i mark0).1) i with h|h
  ·exact absurd ⟨by omega,hlt _ h⟩ (mix_at ms _)
  exact h
 have he:i=mIx ms (ms.getD i mark0).1:=mix_stop hle fun h=>by rw[kl_irrefl]at h; cases h.2
 exact⟨⟨by rw[←he]; exact hi,by rw[←he]⟩,he.symm⟩
set_option maxHeartbeats 1000000 in
theorem mall_any (gm B:Nat)(ms:List MarkA)(w:World)(hk:RX.Blk w gm 73 #[.map (some B)])(hM:MapL Tryz.prog 9 markR w B (mL ms))(hn:ms.length≤1000)(hks:∀ x∈ms,x.1.size≤9223372036854775807):Calls Tryz.prog 24 #[pw gm 0] w fun e w'=>∃ g A' c',e=.returned (.func (.func 55) #[] #[pw g 0])∧w.heap.size≤g∧RX.Blk w' g 27 #[.slice A' ms.length c']∧kMark.R 31 w' w.heap.size (OkFrom w.heap.size) (.slice A' ms.length c') ms∧Below w.heap.size w w':=by
 refine en Tryz.func24 rfl 29 [(0,pw gm 0)] (fun R_ hR_=>?_)
 refine sg (xe0 1 [(0,pw gm 0)] ?_)
 refine nl (sg (xr0 1 [(3,.slice none 0 0)] [] ?_))
 refine nl (sq (sg (xr1 4 [(9,.load (.map (some B)))] [(9,.map (some B))] [] (lc 71 hk 0) ?_)))
 refine xc 39 ent39 [.map (some B)] (mkeys_any B _) ?_
 rintro e w1 ⟨rfl,w2⟩; refine⟨_,rfl,?_⟩
 have b3:Below w.heap.size w w1:=by rw[w2]; exact(Below.refl _ _).alloc (Nat.le_refl _) _
 rw[w2]
 refine xc 38 ent38 [.func (.func 54) #[] #[pw w.heap.size 0]] (msorted_any B ms w hM (by omega)) ?_
 rintro e w4 ⟨A5,c6,rfl,C7,b8⟩; refine⟨_,rfl,?_⟩
 refine xr0 2 [(11,aL A5 ms c6),(12,i6 (ms.length:Int)),(13,i6 0)] [9,10] ?_
 refine nl (X_block ?_)
 have hRis_:=MapL.risM hM (Maps.string_keyed Tryz.underlying9)
 refine X_loop (ι:=Nat×Option Addr×Nat×List MarkA) (fun⟨i,A3,c3,zs⟩=>[(0,pw gm 0),(3,aL A3 zs c3),(11,aL A5 ms c6),(12,i6 (ms.length:Int)),(13,i6 (i:Int))]) (fun⟨i,A3,c3,zs⟩ wl=>i≤ms.length∧zs=ms.take i∧kMark.R 31 wl w4.heap.size (OkFrom w4.heap.size) (aL A3 zs c3) zs∧Below w4.heap.size w4 wl) (fun⟨i,A3,c3,zs⟩=>ms.length-i) (0,none,0,[]) ⟨by omega,rfl,Kd.R_nil _ _ _ _ _,Below.refl _ _⟩ (by kernel_rfl) ?_
 rintro⟨i,A3,c3,zs⟩ wl ⟨hi,he3,hr3,HB⟩
 have hzl_:zs.length=i:=by rw[he3,List.length_take]; omega
 have hil_:=fun(h_:i<ms.length)=>mIn_at hRis_ h_
 have hkz_:(ms.getD i mark0).1.size≤9223372036854775807:=getD_ks hks i
 refine sq (X_region ?_)
 by_cases c9:(i:Int)<(ms.length:Int)
 ·refine xr1 1 [(14,.eq bT)] [(14,bT)] [] (dT c9) ?_
  refine nl (sq (ct (sk (sq (bk (sq (X_region ?_)))))))
  obtain⟨ad10,a11,c12⟩:=Kd.atStrM (Kd.C_below C7 HB) (i:=(i:Int)) (by omega) (by omega)
  have hil13:i<ms.length:=by omega
  rw[show (ms.map (·.1)).getD (i:Int).toNat ByteArray.empty=(ms.getD i mark0).1 from map_getD (·.1) mark0 ByteArray.empty hil13]at c12
  replace c12:CellsAt wl (ad10.add ((i:Int).toNat*1)) [sT (ms.getD i mark0).1]:=c12
  refine xr 3 [(15,.idx ad10),(16,.load (sT ((ms.getD i mark0).1)))] [(5,sT ((ms.getD i mark0).1))] [14] [A5=some ad10,(0:Int)≤(i:Int),(i:Int)<(ms.length:Int),la 9 (ad10.add ((i:Int).toNat*1)) (sT ((ms.getD i mark0).1)) wl] ⟨a11,(by omega),(by omega),loads1 rfl (elem_cell c12 0 _ rfl),trivial⟩ ?_
  refine nl (X_region ?_)
  have hin_:=(hil_ (by omega)).1
  have hlk_:=look_in false (Maps.string_keyed Tryz.underlying9) Tryz.underlying71 zMark (keyS hkz_) (MapL.below hM (bt b8 HB)) hin_
  rw[(hil_ (by omega)).2]at hlk_
  refine xw 8 [(21,.load (.map (some B))),(23,.as (.agg #[sT ((ms.getD i mark0).1),i6 ((ms.getD i mark0).2.1),i6 ((ms.getD i mark0).2.2)]))] [(17,aL A3 zs c3),(24,.slice (some ⟨wl.heap.size,0,none⟩) 1 1)] [3,5] (wl.alloc (.cells #[sT ((ms.getD i mark0).1),i6 ((ms.getD i mark0).2.1),i6 ((ms.getD i mark0).2.2)] 31)) [_,RunsAs Tryz.prog [(21,.map (some B)),(22,sT ((ms.getD i mark0).1))] (Go.Op.lookup 71 (Go.Operand.tmp 21) (Go.Operand.tmp 22) false) 31 (.agg #[sT ((ms.getD i mark0).1),i6 ((ms.getD i mark0).2.1),i6 ((ms.getD i mark0).2.2)]) wl] ⟨lc 71 (Blk.below hk (bt b8 HB)) 0,runs_look (c:=false) rfl rfl hlk_,trivial⟩ ?_
  obtain⟨w14,w18,b15,k16,z17⟩:=new_world wl #[sT ((ms.getD i mark0).1),i6 ((ms.getD i mark0).2.1),i6 ((ms.getD i mark0).2.2)] 31
  rw[w18]
  rw[←w18]
  refine XL_append kMark rfl rfl rfl w4.heap.size 31 (.agg #[s0,i6 0,i6 0]) 32 Tryz.underlying27 info31 rfl (by decide) (by omega) zs (ms.getD i mark0) [sT ((ms.getD i mark0).1),i6 ((ms.getD i mark0).2.1),i6 ((ms.getD i mark0).2.2)] (fun _=>False) (by kernel_rfl) (kMark_M _ _ _ _) (fun _ h=>h.elim) hr3 (HB).size (by first|omega|(simp; omega)) ?_
  intro A19 c20 w21 r22 c23 g24 l25 a26
  have e29:(zs++[(ms.getD i mark0)])=(ms.take (i+1)):=by rw[he3]; exact take_snocM (by omega)
  rw[e29]at r22 ⊢
  refine xr0 1 [(3,aL A19 (ms.take (i+1)) c20)] [17,24,25] ?_
  refine nl (rg (xr1 2 [(26,.eq (i6 ((i:Int)+1)))] [(13,i6 ((i:Int)+1))] [] (w6 ((i:Int)+1)) ?_))
  refine nl ?_
  refine⟨(i+1,A19,c20,(ms.take (i+1))),by kernel_rfl,?_,?_⟩
  ·exact⟨by omega,rfl,r22,(bgo HB g24 l25 (Nat.le_refl _))⟩
  (try dsimp only); omega
 refine xr1 1 [(14,.eq bF)] [(14,bF)] [] (dF c9) ?_
 refine nl (sq (cf (X_exit (sg (xe0 1 [(27,aL A3 zs c3)] ?_)))))
 refine xc 40 ent40 [aL A3 zs c3] (vals_any A3 zs.length c3 _) ?_
 rintro e w33 ⟨g30,rfl,hge31,k32,b34⟩; refine⟨_,rfl,?_⟩
 refine xe0 1 [(2,.func (.func 55) #[] #[pw g30 0])] ?_
 refine nl (X_ret (rj [.func (.func 55) #[] #[pw g30 0]] hR_ ?_))
 have hxi:ms.take i=ms:=List.take_of_length_le (by omega)
 have hrz_:=(Kd.R_below hr3 b34)
 have hkz2_:=k32
 rw[he3,hxi]at hrz_ hkz2_
 exact⟨_,_,_,rfl,Nat.le_trans ((bt b8 HB)).size hge31,hkz2_,Kd.R_low hrz_ (b8).size,(bt (bt b8 HB) b34)⟩
theorem info3 :(Tryz.prog.info? 3).map (fun i=>(i.zero,i.size,i.bytes))=some (some (i6 0),1,8):=by kernel_rfl
theorem Kd_len {α:Type}{d:Kd α}{e n m base:Nat}{ok:Nat→Prop}{w:World}{A:Option Addr}{c:Nat}{xs:List α}(h:d.R e w base ok (.slice A n c) xs)(hn:n=m):d.R e w base ok (.slice A m c) xs:=hn▸h
theorem takeI {L:List Int}{i:Nat}(h:i<L.length):L.take i++[L.getD i 0]=L.take (i+1):=by
 rw[List.take_add_one,List.getElem?_eq_getElem h,List.getD_eq_getElem?_getD,List.getElem?_eq_getElem h]; rfl
noncomputable def plM (xs:List OpA) (b:Bool) (L:List Int):List Int:=L.map fun p=>(plE xs p b).1
set_option maxHeartbeats 1000000 in
theorem plist_any (d:Nat)(xs:List OpA)(A:Option Addr)(c:Nat)(L:List Int)(b:Bool)(w:World)(hd:DeltaC w d xs)(hb:badE xs=0)(hn:xs.length≤1100000)(hz:∀ i,i<xs.length→opSz (xs.getD i op0))(hC:(Kd.int .i64).C w A L.length L)(hl:L.length≤1000)(hT:Tabs w)(es:List Addr)(hE:ErrsM w es):
  Calls Tryz.prog 35 #[pw d 0,.slice A L.length c,.bool b] w fun e w'=>(∃ A' c',e=.returned (.tuple #[.slice A' L.length c',.nilIface])∧(∀ t,t<L.length→(plE xs (L.getD t 0) b).2=0)∧(Kd.int .i64).R 3 w' w.heap.size (OkFrom w.heap.size) (aL A' L c') (plM xs b L)∧Below w.heap.size w w')∨(∃ n i,0<n∧n≤19∧e=.returned (.tuple #[.slice none 0 0,errV es n])∧i<L.length∧(plE xs (L.getD i 0) b).2≠0∧Below w.heap.size w w'):=by
 refine en Tryz.func35 rfl 38 [(0,pw d 0),(1,aL A L c),(2,.bool b)] (fun R_ hR_=>?_)
 refine sg (xe0 2 [(0,pw d 0),(1,aL A L c),(2,.bool b)] ?_)
 refine nl (sg (xr0 2 [(14,i6 (L.length:Int))] [] ?_))
 refine XL_makeCap (Kd.int .i64) rfl rfl rfl 3 (i6 0) 8 (L.length:Int) (by kernel_rfl) Tryz.underlying38 info3 rfl (by decide) (by omega) (0:Int) rfl (by omega) (by omega) ?_
 intro A1 c2 w3 r4 c5 b6
 refine xr0 1 [(8,.slice A1 0 c2)] [14,15] ?_
 refine nl (sq (sg (xr0 3 [(16,aL A L c),(17,i6 (L.length:Int)),(18,i6 0)] [1] ?_)))
 refine nl (bk (X_loop (ι:=Nat×Option Addr×Nat×List Int) (fun⟨i,A3,c3,zs⟩=>[(0,pw d 0),(2,.bool b),(8,aL A3 zs c3),(16,aL A L c),(17,i6 (L.length:Int)),(18,i6 (i:Int))]) (fun⟨i,A3,c3,zs⟩ wl=>i≤L.length∧zs=plM xs b (L.take i)∧(∀ t,t<i→(plE xs (L.getD t 0) b).2=0)∧(Kd.int .i64).R 3 wl w.heap.size (OkFrom w.heap.size) (aL A3 zs c3) zs∧Below w.heap.size w wl) (fun⟨i,A3,c3,zs⟩=>L.length-i) (0,A1,c2,[]) ⟨by omega,rfl,fun t_ ht_=>by omega,r4,b6⟩ (by kernel_rfl) ?_))
 rintro⟨i,A3,c3,zs⟩ wl ⟨hi,he3,hok,hr3,HB⟩
 have hzl_:zs.length=i:=by rw[he3,plM,List.length_map,List.length_take]; omega
 refine sq (X_region ?_)
 by_cases c7:(i:Int)<(L.length:Int)
 ·refine xr1 1 [(19,.eq bT)] [(19,bT)] [] (dT c7) ?_
  refine nl (sq (ct (sk (sq (bk (sq (X_region ?_)))))))
  obtain⟨ad8,a9,c10⟩:=Kd.atI (Kd.C_below hC HB) (i:=(i:Int)) (by omega) (by omega)
  refine xr 3 [(20,.idx ad8),(21,.load (i6 (rd L (i:Int))))] [(10,i6 (rd L (i:Int)))] [19] [A=some ad8,(0:Int)≤(i:Int),(i:Int)<(L.length:Int),la 3 (ad8.add ((i:Int).toNat*1)) (i6 (rd L (i:Int))) wl] ⟨a9,(by omega),(by omega),loads1 rfl (elem_cell c10 0 _ rfl),trivial⟩ ?_
  refine nl (sg (xr0 3 [(23,pw d 0),(24,i6 (rd L (i:Int))),(25,.bool b)] [10] ?_))
  refine xc 50 ent50 [pw d 0,i6 (rd L (i:Int)),.bool b] (pplace_any d xs (rd L (i:Int)) b _ (hd.below HB) hb hn hz (hT.below HB) es ((hE.sub (by decide):ErrsO w es).below HB) ((hE.sub (by decide):ErrsOn [11,12] w es).below HB)) ?_
  rintro e w11 ⟨rfl,b12⟩; refine⟨_,rfl,?_⟩
  refine xr0 5 [(11,i6 ((plE xs (rd L (i:Int)) b).1)),(12,errV es ((plE xs (rd L (i:Int)) b).2))] [23,24,25,26] ?_
  refine nl (sq (sg (xr0 1 [(29,errV es ((plE xs (rd L (i:Int)) b).2))] [] ?_)))
  by_cases c13:(plE xs (rd L (i:Int)) b).2=0
  ·rw[show errV es ((plE xs (rd L (i:Int)) b).2)=.nilIface from by rw[c13]; rfl]
   refine xe0 1 [(0,pw d 0),(2,.bool b),(8,aL A3 zs c3),(11,i6 ((plE xs (rd L (i:Int)) b).1)),(12,.nilIface),(16,aL A L c),(17,i6 (L.length:Int)),(18,nv i),(30,bF)] ?_
   refine nl (cf (sk (rg (xw 3 [] [(32,aL A3 zs c3),(34,.slice (some ⟨w11.heap.size,0,none⟩) 1 1)] [8,11,12,30] (w11.alloc (.cells #[i6 ((plE xs (rd L (i:Int)) b).1)] 3)) [] trivial ?_))))
   obtain⟨w14,w18,b15,k16,z17⟩:=new_world w11 #[i6 ((plE xs (rd L (i:Int)) b).1)] 3
   rw[w18]
   rw[←w18]
   refine XL_append (Kd.int .i64) rfl rfl rfl w.heap.size 3 (i6 0) 8 Tryz.underlying38 info3 rfl (by decide) (by omega) zs ((plE xs (rd L (i:Int)) b).1) [i6 ((plE xs (rd L (i:Int)) b).1)] (fun _=>False) (by kernel_rfl) rfl (fun _ h=>h.elim) (Kd.R_below hr3 b12) ((bt HB b12)).size (by first|omega|(simp; omega)) ?_
   intro A19 c20 w21 r22 c23 g24 l25 a26
   have e27:(zs++[(plE xs (rd L (i:Int)) b).1])=(plM xs b (L.take (i+1))):=by rw[he3,←takeI (show i<L.length by omega)]; unfold plM; rw[List.map_append]; rfl
   rw[e27]at r22 ⊢
   refine xr0 1 [(8,aL A19 (plM xs b (L.take (i+1))) c20)] [32,34,35] ?_
   refine nl (rg (xr1 2 [(36,.eq (i6 ((i:Int)+1)))] [(18,i6 ((i:Int)+1))] [] (w6 ((i:Int)+1)) ?_))
   refine nl ?_
   have B28:Below w.heap.size w w21:=(bgo (bt HB b12) g24 l25 (Nat.le_refl _))
   refine⟨(i+1,A19,c20,(plM xs b (L.take (i+1)))),by kernel_rfl,?_,?_⟩
   ·exact⟨by omega,rfl,fun t_ ht_=>by by_cases e_:t_=i; (· rw[e_]; exact c13); (· exact hok t_ (by omega)),r22,B28⟩
   (try dsimp only); omega
  rw[errV_pos es ((plE xs (rd L (i:Int)) b).2) (Nat.pos_of_ne_zero c13)]
  refine xe0 1 [(0,pw d 0),(2,.bool b),(8,aL A3 zs c3),(11,i6 ((plE xs (rd L (i:Int)) b).1)),(12,.iface 208 (.pointer (some (errAt es ((plE xs (rd L (i:Int)) b).2))))),(16,aL A L c),(17,i6 (L.length:Int)),(18,nv i),(30,bT)] ?_
  refine nl (ct (sg (xe0 3 [(6,.slice none 0 0),(7,.iface 208 (.pointer (some (errAt es ((plE xs (rd L (i:Int)) b).2)))))] ?_)))
  refine nl (X_ret (rj [.slice none 0 0,.iface 208 (.pointer (some (errAt es ((plE xs (rd L (i:Int)) b).2))))] hR_ ?_))
  exact .inr ⟨_,i,Nat.pos_of_ne_zero c13,plE_le _ _ _,by rw[errV_pos es _ (Nat.pos_of_ne_zero c13)]; rfl,by omega,c13,(bt HB b12)⟩
 refine xr1 1 [(19,.eq bF)] [(19,bF)] [] (dF c7) ?_
 refine nl (sq (cf (X_exit (sg (xe0 3 [(6,aL A3 zs c3),(7,.nilIface)] ?_)))))
 refine nl (X_ret (rj [.slice A3 zs.length c3,.nilIface] hR_ ?_))
 have hxi:L.take i=L:=List.take_of_length_le (by omega)
 have hrz_:=Kd_len (m:=L.length) (hr3) (by omega)
 rw[hxi]at he3
 have hll_:zs.length=L.length:=by omega
 rw[he3]at hrz_
 exact .inl ⟨_,_,congrArg (fun n_=>Ending.returned (.tuple #[.slice A3 n_ c3,.nilIface])) hll_,fun t_ ht_=>hok t_ (by omega),Kd.R_low hrz_ (Nat.le_refl _),HB⟩
theorem mark_eql (x y:MarkA)(w:World):(Op.equalIn 10000 31 (mV x) (mV y)).run Tryz.prog w=.ok ((x.1.toList==y.1.toList)&&((x.2.1==y.2.1)&&(x.2.2==y.2.2))) w:=by
  refine eqA_of (d:=9999) Tryz.underlying31 (by kernel_rfl) ?_
  exact eqf_cons (a:=.string x.1) (b:=.string y.1) rfl (by kernel_rfl) (by kernel_rfl) (run_equalIn_string _ _ _ _ _ Tryz.underlying9) (eqf_cons (a:=.int .i64 x.2.1) (b:=.int .i64 y.2.1) rfl (by kernel_rfl) (by kernel_rfl) (run_equalIn_int _ _ _ _ _ _ _ Tryz.underlying3) (eqf_last (a:=.int .i64 x.2.2) (b:=.int .i64 y.2.2) rfl (by kernel_rfl) (by kernel_rfl) (run_equalIn_int _ _ _ _ _ _ _ Tryz.underlying3)))
theorem mark_eq_self (x:MarkA):((x.1.toList==x.1.toList)&&((x.2.1==x.2.1)&&(x.2.2==x.2.2)))=true:=by simp
theorem mark_neq (x:MarkA)(w:World):(binOp .neq 31 (mV x) (mV x)).run Tryz.prog w=.ok (.bool false) w:=by
  have h:=mark_eql x x w
  rw[mark_eq_self]at h
  show (binOp .neq 31 (.agg _) (.agg _)).run _ _=_
  rw[run_neq_struct]
  show ((Op.equalIn 10000 31 (mV x) (mV x)).run Tryz.prog w).andThen _=_
  rw[h]; rfl
theorem mark_eqb (x:MarkA)(w:World):(binOp .eql 31 (mV x) (mV x)).run Tryz.prog w=.ok (.bool true) w:=by
  have h:=mark_eql x x w
  rw[mark_eq_self]at h
  show (binOp .eql 31 (.agg _) (.agg _)).run _ _=_
  rw[run_eql_struct]
  show ((Op.equalIn 10000 31 (mV x) (mV x)).run Tryz.prog w).andThen _=_
  rw[h]; rfl
end Go.Proofs.YtlnnjfdonilgmaaGreatDoor
