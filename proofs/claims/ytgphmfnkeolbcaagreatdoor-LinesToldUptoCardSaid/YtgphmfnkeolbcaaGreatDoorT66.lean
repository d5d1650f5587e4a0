import Derived.Test.YtgphmfnkeolbcaaGreatDoorT51
import Derived.Test.YtgphmfnkeolbcaaGreatDoorClp
import Derived.Test.YtgphmfnkeolbcaaGreatDoorIn
/- lines.split: a document's lines. Conditions: sizes, the tables of utf8, the errors' variables. -/
set_option linter.unusedVariables false
set_option linter.unusedSimpArgs false
set_option maxRecDepth 100000
namespace Go.Proofs.YtgphmfnkeolbcaaGreatDoor
open Go Go.RowKit Go.Proofs.YtgphmfnkeolbcaaGreatDoorW.PrintWords RX
theorem ent106 :Ent Tryz.prog 106:=ent_of Tryz.func106 (by kernel_rfl) rfl
theorem ent103 :Ent Tryz.prog 103:=ent_of Tryz.func103 (by kernel_rfl) rfl
theorem info78 :(Tryz.prog.info? 78).map (fun i=>(i.zero,i.size,i.bytes))=some (some (.agg #[i6 0,i6 0,.slice none 0 0,s0]),4,56):=by kernel_rfl
theorem letter_any (c:CellA)(A:Option Addr)(k:Nat)(w:World):Rt 106 #[.agg (c6A c (.slice A c.attrs.length k))] w (.int .i32 (letL c)):=by
 refine en Tryz.func106 rfl 8 [(0,.agg (c6A c (aL A c.attrs k)))] (fun R_ hR_=>?_)
 refine sg (xwe 1 [] [(1,pw w.heap.size 0)] (w.alloc (.cells (c6A c (aL A c.attrs k)) 51)) [] trivial ?_)
 obtain⟨w1,w5,b2,k3,z4⟩:=new_world w (c6A c (aL A c.attrs k)) 51
 rw[w5]
 refine xr0 1 [] [] ?_
 refine nl (sq (sg (xr1 2 [(4,.load (.int .i32 c.rune))] [(4,.int .i32 c.rune)] [] (lc 21 k3 0) ?_)))
 by_cases c6:c.rune<0
 ·refine xr1 1 [(5,.eq bT)] [(5,bT)] [4] (dT c6) ?_
  refine nl (ct (sg (xe0 1 [(2,.int .i32 65532)] ?_)))
  refine nl (X_ret (rj [.int .i32 65532] hR_ ?_))
  rw[show letL c=65532 from if_pos c6]
  exact⟨rfl,b2⟩
 refine xr1 1 [(5,.eq bF)] [(5,bF)] [4] (dF c6) ?_
 refine nl (cf (sk (sg (xe1 3 [(7,.load (.int .i32 c.rune))] [(2,.int .i32 c.rune)] (lc 21 k3 0) ?_))))
 refine nl (X_ret (rj [.int .i32 c.rune] hR_ ?_))
 rw[show letL c=c.rune from if_neg c6]
 exact⟨rfl,b2⟩
def SplI (w:World)(g4 g5 g6 hi:Nat)(pre:List ElA)(M:Nat→Prop)(W:World):Prop:=
 ∃ (ls:List LineA) (tx:List Int) (fr:Int) (A4:Option Addr) (c4:Nat) (A5:Option Addr) (c5:Nat),lnRunE pre=(ls,tx,fr)∧RX.Blk W g4 66 #[aL A4 ls c4]∧RX.Blk W g5 150 #[aL A5 tx c5]∧RX.Blk W g6 3 #[i6 fr]∧kLine.R 78 W w.heap.size (OkFrom w.heap.size) (aL A4 ls c4) ls∧(Kd.int .i32).R 21 W w.heap.size (OkFrom w.heap.size) (aL A5 tx c5) tx∧M=(fun k=>k=g4∨k=g5∨k=g6∨A4.map (·.block)=some k∨A5.map (·.block)=some k)∧(∀ k,A4.map (·.block)=some k→hi≤k)∧(∀ k,A5.map (·.block)=some k→hi≤k)∧Below w.heap.size w W
theorem SplI.own {w:World}{g4 g5 g6 hi B:Nat}(h:w.heap.size≤B)(M:Nat→Prop):OwnFrom B (fun s W=>SplI w g4 g5 g6 hi s M W):=by
 rintro s W W' row ⟨ls,tx,fr,A4,c4,A5,c5,h0,h1,h2,h3,h4,h5,h6,h7,h8,h9⟩ hg hr
 exact⟨ls,tx,fr,A4,c4,A5,c5,h0,RX.ownFrom_blk (β:=Unit) (B:=B) (fun _=>g4) _ (fun _=>_) () W W' row h1 hg hr,RX.ownFrom_blk (β:=Unit) (B:=B) (fun _=>g5) _ (fun _=>_) () W W' row h2 hg hr,RX.ownFrom_blk (β:=Unit) (B:=B) (fun _=>g6) _ (fun _=>_) () W W' row h3 hg hr,RX.ownFrom_R (β:=Unit) (B:=B) kLine _ w.heap.size (fun _=>_) (fun _=>ls) () W W' row h4 hg hr,RX.ownFrom_R (β:=Unit) (B:=B) (Kd.int .i32) _ w.heap.size (fun _=>_) (fun _=>tx) () W W' row h5 hg hr,h6,h7,h8,RX.ownFrom_below' (β:=Unit) w h () W W' row h9 hg hr⟩
theorem SplI.im {w:World}{g4 g5 g6 lo hi:Nat}{pre:List ElA}{M:Nat→Prop}{W:World}(h:SplI w g4 g5 g6 hi pre M W)(h4:w.heap.size≤g4∧g4<lo)(h5:w.heap.size≤g5∧g5<lo)(h6:w.heap.size≤g6∧g6<lo)(hwh:w.heap.size≤hi):∀ k,M k→¬DI w.heap.size lo hi k∧k<W.heap.size:=by
 obtain⟨ls,tx,fr,A4,c4,A5,c5,e0,e1,e2,e3,e4,e5,rfl,e7,e8,e9⟩:=h
 rintro k (rfl|rfl|rfl|hk|hk)
 ·exact⟨fun h=>by rcases h with h|h<;>omega,e1.lt⟩
 ·exact⟨fun h=>by rcases h with h|h<;>omega,e2.lt⟩
 ·exact⟨fun h=>by rcases h with h|h<;>omega,e3.lt⟩
 ·have:=e7 k hk
  exact⟨fun h=>by rcases h with h|h<;>omega,Kd.R_lt e4 k hk⟩
 have:=e8 k hk
 exact⟨fun h=>by rcases h with h|h<;>omega,Kd.R_lt e5 k hk⟩
set_option maxHeartbeats 2000000 in
theorem split_any (d:Nat)(xs:List OpA)(w:World)(hd:DeltaC w d xs)(hb:badE xs=0)(hn:xs.length≤1100000)(hz:∀ i,i<xs.length→opSz (xs.getD i op0))(hdoc:isDoc xs=true)(hL:(cellsAll xs).length≤100000000)(hT:Tabs w)(es:List Addr)(hE:ErrsC w es):Calls Tryz.prog 103 #[pw d 0] w fun e w'=>∃ A' c' ls,ls=(lnRun (cellsAll xs)).1∧e=.returned (.tuple #[.slice A' ls.length c',.bool (lnEnds (cellsAll xs))])∧ls.length≤c'∧kLine.R 78 w' w.heap.size (OkFrom w.heap.size) (.slice A' ls.length c') ls∧Below w.heap.size w w':=by
 have hr:=doc_ref hb hdoc
 refine RX.enterM Tryz.func103 rfl 44 rfl [(0,pw d 0)] rfl (by kernel_rfl) (fun R_ hR_=>?_)
 refine RX.X_mark0 rfl ?_
 refine sg (xe0 2 [(0,pw d 0),(1000000,encD [])] ?_)
 refine nl (sg (xw 1 [] [(4,pw w.heap.size 0)] [] (w.alloc (.cells #[.slice none 0 0] 66)) [] trivial ?_))
 obtain⟨w1,w5,b2,k3,z4⟩:=new_world w #[.slice none 0 0] 66
 rw[w5]
 refine nl (sg (xw 1 [] [(5,pw w1.heap.size 0)] [] (w1.alloc (.cells #[.slice none 0 0] 150)) [] trivial ?_))
 obtain⟨w6,w10,b7,k8,z9⟩:=new_world w1 #[.slice none 0 0] 150
 rw[w10]
 refine nl (sg (xw 1 [] [(6,pw w6.heap.size 0)] [] (w6.alloc (.cells #[i6 0] 3)) [] trivial ?_))
 obtain⟨w11,w15,b12,k13,z14⟩:=new_world w6 #[i6 0] 3
 rw[w15]
 refine xst (i6 0) k13 0 #[i6 0] (fun w16 g17 k18 z19=>?_)
 have hne20:w.heap.size≠w6.heap.size:=Blk.tne (Blk.below k3 (bt b7 b12)) k13 rfl
 have k21:=Blk.other (Blk.below k3 (bt b7 b12)) g17 hne20
 have hne22:w1.heap.size≠w6.heap.size:=Blk.tne (Blk.below k8 b12) k13 rfl
 have k23:=Blk.other (Blk.below k8 b12) g17 hne22
 refine nl (sq (sg (xr0 1 [(9,pw d 0)] [0] ?_)))
 have B32:Below w.heap.size w w16:=(bg (bt (bt b2 b7) b12) g17 ((bt b2 b7)).size)
 refine xc 97 ent97 [pw d 0] (ceach_any d xs _ (hd.below B32) hb hn hz) ?_
 rintro e w33 ⟨g24,A25,c26,zs27,ez28,rfl,hge29,k30,r31,b34⟩; refine⟨_,rfl,?_⟩
 rw[if_pos hdoc]at ez28; rw[ez28]at k30 r31
 have hr9_:kOp.R 102 w33 w16.heap.size (fun k_=>w16.heap.size≤k_∧k_<w33.heap.size) (aL A25 xs c26) xs:=Kd.R_mono (Kd.R_bound r31) (fun k_ hk_=>⟨hk_.2.1,hk_.2.2.1⟩)
 have hgl_:=k30.lt
 refine nl (X_block ?_)
 have hc4_:w.heap.size≤w.heap.size∧w.heap.size<w16.heap.size:=⟨(Nat.le_refl _),Nat.lt_of_lt_of_le (Blk.lt k3) ((bg (bt b7 b12) g17 (b7).size)).size⟩
 have hc5_:w.heap.size≤w1.heap.size∧w1.heap.size<w16.heap.size:=⟨(b2).size,Nat.lt_of_lt_of_le (Blk.lt k8) ((bg b12 g17 (Nat.le_refl _))).size⟩
 have hc6_:w.heap.size≤w6.heap.size∧w6.heap.size<w16.heap.size:=⟨((bt b2 b7)).size,Nat.lt_of_lt_of_le (Blk.lt k13) g17.size⟩
 have hlh_:w16.heap.size≤w33.heap.size:=(b34).size
 have hwh_:w.heap.size≤w33.heap.size:=((bt B32 b34)).size
 have hDt_:∀ k_,(DI w.heap.size w16.heap.size w33.heap.size) k_→k_<w33.heap.size:=fun k_ h_=>by rcases h_ with h_|h_<;>omega
 refine X_rangeM (α:=ElA) (ι:=Nat) rfl ent159 (encs:=elV) (ceach_seq (DI w.heap.size w16.heap.size w33.heap.size) (fun k_=>w16.heap.size≤k_∧k_<w33.heap.size) w16.heap.size g24 A25 c26 xs w w33 hr9_ (fun k_ h_=>.inr h_) (fun k_ h_=>.inl h_) hDt_ (bt B32 b34) (by omega) hr hz hT es hE k30 (by omega)) (Below.refl _ _) hDt_ (fun _=>rfl) (by kernel_rfl) (fun pre_ M_ W_=>SplI w w.heap.size w1.heap.size w6.heap.size w33.heap.size pre_ M_ W_) (fun c_ pre_ W_=>False) (fun M_=>SplI.own ((bt B32 b34)).size M_) (fun _=>RX.ownFrom_pure _) (fun _ _ _ h_=>SplI.im h_ hc4_ hc5_ hc6_ hwh_) (fun k_=>k_=w.heap.size∨k_=w1.heap.size∨k_=w6.heap.size∨(none:Option Addr).map (·.block)=some k_∨(none:Option Addr).map (·.block)=some k_) ⟨[],[],0,none,0,none,0,rfl,(Blk.below k21 b34),(Blk.below k23 b34),(Blk.below k18 b34),Kd.R_nil _ _ _ _ _,Kd.R_nil _ _ _ _ _,rfl,(fun k_ h_=>by cases h_),(fun k_ h_=>by cases h_),(bt B32 b34)⟩ (fun x_ i_ W_=>RX.Blk W_ i_ 51 #[.int .i32 x_.2.1.rune,sT x_.2.1.kind,i6 x_.2.1.vk,i6 x_.2.1.vn,sT x_.2.1.vt,aL x_.2.2.1 x_.2.1.attrs x_.2.2.2]∧ElPx w33.heap.size x_ W_) (fun i_=>OwnFrom.and (ownFrom_blk (fun _=>i_) 51 (fun(x_:ElA)=>#[.int .i32 x_.2.1.rune,sT x_.2.1.kind,i6 x_.2.1.vk,i6 x_.2.1.vn,sT x_.2.1.vt,aL x_.2.2.1 x_.2.1.attrs x_.2.2.2])) ownFrom_px) (fun x_ i_=>[(4,pw w.heap.size 0),(5,pw w1.heap.size 0),(6,pw w6.heap.size 0),(7,i6 x_.1),(8,pw i_ 0)]) ?_ ?_ ?_ ?_
 ·rintro lp_ pre_ M_ x_ W_ hlp_ hws_ ⟨ls_,tx_,fr_,A4_,c4_,A5_,c5_,hrun_,hk4_,hk5_,hk6_,hr4_,hr5_,hM_,hA4_,hA5_,hBw_⟩ hpx_ hlen_
  have hg4l_:=hk4_.lt
  have hg5l_:=hk5_.lt
  have hg6l_:=hk6_.lt
  have hlen2_:=lnRunE_len pre_
  rw[hrun_]at hlen2_
  replace hlen2_:ls_.length≤pre_.length∧tx_.length≤pre_.length:=hlen2_
  refine XI_keep [4,5,6,9,10,11,12] [(4,pw w.heap.size 0),(5,pw w1.heap.size 0),(6,pw w6.heap.size 0),(9,pw d 0),(10,.func (.func 159) #[] #[pw g24 0]),(11,i6 x_.1),(12,.agg #[.int .i32 x_.2.1.rune,sT x_.2.1.kind,i6 x_.2.1.vk,i6 x_.2.1.vn,sT x_.2.1.vt,aL x_.2.2.1 x_.2.1.attrs x_.2.2.2])] (by kernel_rfl) ?_
  refine XI_seq ?_
  refine XI_region (by kernel_rfl) (fun _ _ h_=>h_) ?_
  refine xe0 1 [(4,pw w.heap.size 0),(5,pw w1.heap.size 0),(6,pw w6.heap.size 0),(7,i6 x_.1),(12,.agg #[.int .i32 x_.2.1.rune,sT x_.2.1.kind,i6 x_.2.1.vk,i6 x_.2.1.vn,sT x_.2.1.vt,aL x_.2.2.1 x_.2.1.attrs x_.2.2.2])] ?_
  refine nl (XI_region (by kernel_rfl) (fun _ _ h_=>h_) ?_)
  refine xw 1 [] [(8,pw W_.heap.size 0)] [] (W_.alloc (.cells #[.int .i32 0,s0,i6 0,i6 0,s0,.slice none 0 0] 51)) [] trivial ?_
  obtain⟨w35,w39,b36,k37,z38⟩:=new_world W_ #[.int .i32 0,s0,i6 0,i6 0,s0,.slice none 0 0] 51
  rw[w39]
  refine xst (.agg #[.int .i32 x_.2.1.rune,sT x_.2.1.kind,i6 x_.2.1.vk,i6 x_.2.1.vn,sT x_.2.1.vt,aL x_.2.2.1 x_.2.1.attrs x_.2.2.2]) k37 0 #[.int .i32 x_.2.1.rune,sT x_.2.1.kind,i6 x_.2.1.vk,i6 x_.2.1.vn,sT x_.2.1.vt,aL x_.2.2.1 x_.2.1.attrs x_.2.2.2] (fun w40 g41 k42 z43=>?_)
  have hne44:w.heap.size≠W_.heap.size:=Blk.tne (Blk.below hk4_ b36) k37 rfl
  have k45:=Blk.other (Blk.below hk4_ b36) g41 hne44
  have hne46:w1.heap.size≠W_.heap.size:=Blk.tne (Blk.below hk5_ b36) k37 rfl
  have k47:=Blk.other (Blk.below hk5_ b36) g41 hne46
  have hne48:w6.heap.size≠W_.heap.size:=Blk.tne (Blk.below hk6_ b36) k37 rfl
  have k49:=Blk.other (Blk.below hk6_ b36) g41 hne48
  have r50:=Kd.R_off (Kd.R_below hr5_ b36) k37 (by decide) g41
  have r51:=Kd.R_off (Kd.R_below hr4_ b36) k37 (by decide) g41
  refine nl ?_
  have hDw_:∀ k_,(DI w.heap.size w16.heap.size w33.heap.size) k_→k_<W_.heap.size:=fun k_ h_=>by have:=hDt_ k_ h_; omega
  exact⟨W_.heap.size,by kernel_rfl,(KeepsFrom.trans (keeps_below b36) (keeps_store k37 g41)),KpM.below hDw_ ((bg b36 g41 (Nat.le_refl _)):Below W_.heap.size W_ w40),⟨ls_,tx_,fr_,A4_,c4_,A5_,c5_,hrun_,k45,k47,k49,r51,r50,hM_,hA4_,hA5_,(bg (bt hBw_ b36) g41 (hBw_).size)⟩,k42,ElPx.below ((bg b36 g41 (Nat.le_refl _)):Below W_.heap.size W_ w40) hpx_⟩
 ·rintro lp_ pre_ M_ x_ i_ W_ hlp_ hws_ ⟨ls_,tx_,fr_,A4_,c4_,A5_,c5_,hrun_,hk4_,hk5_,hk6_,hr4_,hr5_,hM_,hA4_,hA5_,hBw_⟩ ⟨hki_,hpx_⟩ hlen_
  have hg4l_:=hk4_.lt
  have hg5l_:=hk5_.lt
  have hg6l_:=hk6_.lt
  have hlen2_:=lnRunE_len pre_
  rw[hrun_]at hlen2_
  replace hlen2_:ls_.length≤pre_.length∧tx_.length≤pre_.length:=hlen2_
  obtain⟨hx0_,hxl_,wb_,hwb_,hlk_,hra_⟩:=hpx_
  refine XI_block ?_
  refine XI_seq ?_
  refine XI_seq ?_
  refine XI_region (by kernel_rfl) (fun _ _ h_=>h_) ?_
  refine xe1 2 [(14,.load (.int .i32 x_.2.1.rune))] [(4,pw w.heap.size 0),(5,pw w1.heap.size 0),(6,pw w6.heap.size 0),(7,i6 x_.1),(8,pw i_ 0),(14,.int .i32 x_.2.1.rune)] (lc 21 hki_ 0) ?_
  by_cases c52:x_.2.1.rune=10
  ·refine xr1 1 [(15,.eq bF)] [(15,bF)] [14] (nF c52) ?_
   refine nl (XI_cond false rfl ?_)
   refine XI_skip ?_
   refine XI_seq ?_
   refine XI_grow (by kernel_rfl) (fun _ _ h_=>h_) [11,12] 13 (tf 0 13) (by kernel_rfl) (by kernel_rfl) (by kernel_rfl) (fun wd53 b54 h55=>?_)
   refine XB_runC (fuel':=5) (Below.refl _ _) [0,1,2,3,4,5,7,8] [(21,.load (aL A4_ ls_ c4_)),(22,.load (i6 fr_)),(23,.load (aL A5_ tx_ c5_)),(26,.load (aL x_.2.2.1 x_.2.1.attrs x_.2.2.2)),(28,.load (aL A5_ tx_ c5_)),(29,.as (sT (runesBytes tx_)))] [.slice A4_ ls_.length c4_,i6 fr_,.slice A5_ tx_.length c5_,i6 (tx_.length:Int),pw i_ 5,.slice x_.2.2.1 x_.2.1.attrs.length x_.2.2.2,.slice A5_ tx_.length c5_,sT (runesBytes tx_)] #[true,true,true,true,true,true,false,true,true,false,false,false,false] [(21,aL A4_ ls_ c4_),(22,i6 fr_),(24,i6 (tx_.length:Int)),(26,aL x_.2.2.1 x_.2.1.attrs x_.2.2.2),(29,sT (runesBytes tx_))] [8,15] (fun w_=>[la 66 (⟨w.heap.size,0,none⟩) (aL A4_ ls_ c4_) w_,la 3 (⟨w6.heap.size,0,none⟩) (i6 fr_) w_,la 150 (⟨w1.heap.size,0,none⟩) (aL A5_ tx_ c5_) w_,la 49 (⟨i_,5,none⟩) (aL x_.2.2.1 x_.2.1.attrs x_.2.2.2) w_,la 150 (⟨w1.heap.size,0,none⟩) (aL A5_ tx_ c5_) w_,RunsAs Tryz.prog [(28,aL A5_ tx_ c5_)] (Go.Op.convert 150 9 (Go.Operand.tmp 28)) 9 (sT (runesBytes tx_)) w_]) (fun w_ hC_=>⟨loads1 rfl (Blk.cell (Blk.below hk4_ (bt b54 hC_)) 0 _ rfl),loads1 rfl (Blk.cell (Blk.below hk6_ (bt b54 hC_)) 0 _ rfl),loads1 rfl (Blk.cell (Blk.below hk5_ (bt b54 hC_)) 0 _ rfl),loads1 rfl (Blk.cell (Blk.below hki_ (bt b54 hC_)) 5 _ rfl),loads1 rfl (Blk.cell (Blk.below hk5_ (bt b54 hC_)) 0 _ rfl),runs_conv rfl (conv_runesC tx_ Tryz.underlying150 Tryz.underlying21 Tryz.underlying9 (Kd.R_C (Kd.R_below hr5_ (bt b54 hC_)))),trivial⟩) ?_
   refine XB_mid (fuel':=4) 6 (tf 9 4) _ rfl (by kernel_rfl) (by kernel_rfl) rfl ?_
   refine xc 110 ent110 [aL x_.2.2.1 x_.2.1.attrs x_.2.2.2] (clone_any _ _ x_.2.1.attrs _ (Kd.R_C (Kd.R_below hra_ b54)) hxl_) ?_
   rintro e w60 ⟨A56,c57,rfl,l58,r59,b61⟩; refine⟨_,rfl,?_⟩
   refine nl ?_
   refine⟨b61,?_⟩
   refine XB_runC (fuel':=3) b61 [9] [] [.agg #[i6 fr_,i6 (tx_.length:Int),.slice A56 x_.2.1.attrs.length c57,sT (runesBytes tx_)]] (tf 10 3) [(30,.agg #[i6 fr_,i6 (tx_.length:Int),.slice A56 x_.2.1.attrs.length c57,sT (runesBytes tx_)])] [22,24,26,27,29] (fun w_=>[]) (fun w_ hC_=>trivial) ?_
   refine XB_mid (fuel':=2) 10 (tf 11 2) _ rfl (by kernel_rfl) (by kernel_rfl) rfl ?_
   refine xw 1 [] [(31,.slice (some ⟨w60.heap.size,0,none⟩) 1 1)] [30] (w60.alloc (.cells #[i6 fr_,i6 (tx_.length:Int),.slice A56 x_.2.1.attrs.length c57,sT (runesBytes tx_)] 78)) [] trivial ?_
   obtain⟨w62,w66,b63,k64,z65⟩:=new_world w60 #[i6 fr_,i6 (tx_.length:Int),.slice A56 x_.2.1.attrs.length c57,sT (runesBytes tx_)] 78
   rw[w66]
   refine nl ?_
   refine⟨(bt b61 b63),?_⟩
   refine XB_act (fuel':=1) 11 (tf 12 1) _ rfl (by kernel_rfl) rfl (by kernel_rfl) rfl ?_
   obtain⟨okp67,M68,hok69⟩:=Kd.M_rowApart r59 ((bt hBw_ b54)).size (Kd.R_below hr4_ (bt b54 b61)) (by decide)
   rw[←w66]
   refine XL_append kLine rfl rfl rfl w.heap.size 78 (.agg #[i6 0,i6 0,.slice none 0 0,s0]) 56 Tryz.underlying66 info78 rfl (by decide) (by omega) ls_ (⟨fr_,(tx_.length:Int),x_.2.1.attrs,(runesBytes tx_)⟩:LineA) [i6 fr_,i6 (tx_.length:Int),.slice A56 x_.2.1.attrs.length c57,sT (runesBytes tx_)] okp67 (by kernel_rfl) (kLine_M (x:=(⟨fr_,(tx_.length:Int),x_.2.1.attrs,(runesBytes tx_)⟩:LineA)) M68) hok69 (Kd.R_below hr4_ (bt b54 b61)) ((bt (bt hBw_ b54) b61)).size (by first|omega|(simp; omega)) ?_
   intro A70 c71 w72 r73 c74 g75 l76 a77
   have hne81:=RX.Kd.R_blk_ne (Kd.R_below hr4_ (bt b54 b61)) (Blk.below hk4_ (bt b54 b61)) rfl
   have k82:=Blk.ne (Blk.below hk4_ (bt b54 b61)) g75 hne81
   have hne83:=RX.Kd.R_blk_ne (Kd.R_below hr4_ (bt b54 b61)) (Blk.below hk5_ (bt b54 b61)) rfl
   have k84:=Blk.ne (Blk.below hk5_ (bt b54 b61)) g75 hne83
   have hne85:=RX.Kd.R_blk_ne (Kd.R_below hr4_ (bt b54 b61)) (Blk.below hk6_ (bt b54 b61)) rfl
   have k86:=Blk.ne (Blk.below hk6_ (bt b54 b61)) g75 hne85
   refine nl (XB_act (fuel':=0) 12 (tf 13 0) _ rfl (by kernel_rfl) rfl (by kernel_rfl) rfl ?_)
   refine xst (aL A70 (ls_++[(⟨fr_,(tx_.length:Int),x_.2.1.attrs,(runesBytes tx_)⟩:LineA)]) c71) k82 0 #[aL A70 (ls_++[(⟨fr_,(tx_.length:Int),x_.2.1.attrs,(runesBytes tx_)⟩:LineA)]) c71] (fun w89 g90 k91 z92=>?_)
   have hne93:w1.heap.size≠w.heap.size:=Nat.ne_of_gt (Nat.lt_of_lt_of_le (Blk.lt k3) (Nat.le_refl _))
   have k94:=Blk.other k84 g90 hne93
   have hne95:w6.heap.size≠w.heap.size:=Nat.ne_of_gt (Nat.lt_of_lt_of_le (Blk.lt k3) (b7).size)
   have k96:=Blk.other k86 g90 hne95
   have r102:=Kd.R_off r73 k82 (by decide) g90
   refine nl (XB_done (by kernel_rfl) ?_)
   refine XI_region (by kernel_rfl) (fun _ _ h_=>h_) ?_
   refine xr0 2 [(34,i6 (IntKind.i64.wrap (x_.1+1)))] [7,21,31,32] ?_
   refine xst (i6 (IntKind.i64.wrap (x_.1+1))) k96 0 #[i6 (IntKind.i64.wrap (x_.1+1))] (fun w103 g104 k105 z106=>?_)
   have k107:=Blk.other k91 g104 hne20
   have k108:=Blk.other k94 g104 hne22
   have r114:=Kd.R_off r102 k96 (by decide) g104
   refine xst (.slice none 0 0) k108 0 #[.slice none 0 0] (fun w115 g116 k117 z118=>?_)
   have hne119:w.heap.size≠w1.heap.size:=Nat.ne_of_lt (Nat.lt_of_lt_of_le (Blk.lt k3) (Nat.le_refl _))
   have k120:=Blk.other k107 g116 hne119
   have hne121:w6.heap.size≠w1.heap.size:=Nat.ne_of_gt (Nat.lt_of_lt_of_le (Blk.lt k8) (Nat.le_refl _))
   have k122:=Blk.other k105 g116 hne121
   have r128:=Kd.R_off r114 k108 (by decide) g116
   refine nl ?_
   have hDw_:∀ k_,(DI w.heap.size w16.heap.size w33.heap.size) k_→k_<W_.heap.size:=fun k_ h_=>by have:=hDt_ k_ h_; omega
   have hincl_:∀ k_,A70.map (·.block)=some k_→A4_.map (·.block)=some k_∨W_.heap.size≤k_:=fun k_ e_=>by rcases a77 with h_|⟨b_,h_,h2_⟩; (· rw[h_]at e_; exact .inl e_); (· rw[h_]at e_; injection e_ with e_; subst e_; exact .inr (Nat.le_trans (Nat.le_trans b54.size b61.size) h2_))
   have B129:Below w.heap.size w w115:=(bg (bg (bg (bgo (bt (bt hBw_ b54) b61) g75 l76 (Nat.le_refl _)) g90 (Nat.le_refl _)) g104 ((bt b2 b7)).size) g116 (b2).size)
   exact⟨(KeepsFrom.trans (KeepsFrom.trans (KeepsFrom.trans (KeepsFrom.trans (KeepsFrom.trans (keeps_below b54) (keeps_below b61)) (keeps_row (Kd.R_below hr4_ (bt b54 b61)) g75)) (keeps_store k82 g90)) (keeps_store k96 g104)) (keeps_store k108 g116)),(fun k_=>k_=w.heap.size∨k_=w1.heap.size∨k_=w6.heap.size∨A70.map (·.block)=some k_∨(none:Option Addr).map (·.block)=some k_),(KpM.trans (KpM.trans (KpM.trans (KpM.trans (KpM.trans (KpM.below (fun k_ h_=>Nat.lt_of_lt_of_le (hDw_ k_ h_) (Nat.le_refl _)) b54) (KpM.below (fun k_ h_=>Nat.lt_of_lt_of_le (hDw_ k_ h_) b54.size) b61)) (KpM.grown g75 (fun k_ e_=>⟨by rw[hM_]; first|exact .inr (.inr (.inr (.inl e_)))|exact .inr (.inr (.inr (.inr e_))),fun h_=>by first|(have h1_:=hA4_ k_ e_; rcases h_ with h_|h_<;>omega)|(have h1_:=hA5_ k_ e_; rcases h_ with h_|h_<;>omega)⟩) (fun k_ h_=>Nat.lt_of_lt_of_le (hDw_ k_ h_) (Nat.le_trans b54.size b61.size)))) (KpM.grown g90 (fun k_ e_=>by injection e_ with e_; subst e_; exact⟨by rw[hM_]; first|exact .inl rfl|exact .inr (.inl rfl)|exact .inr (.inr (.inl rfl)),fun h_=>by rcases h_ with h_|h_<;>omega⟩) (fun k_ h_=>Nat.lt_of_lt_of_le (hDw_ k_ h_) (Nat.le_trans (Nat.le_trans b54.size b61.size) g75.size)))) (KpM.grown g104 (fun k_ e_=>by injection e_ with e_; subst e_; exact⟨by rw[hM_]; first|exact .inl rfl|exact .inr (.inl rfl)|exact .inr (.inr (.inl rfl)),fun h_=>by rcases h_ with h_|h_<;>omega⟩) (fun k_ h_=>Nat.lt_of_lt_of_le (hDw_ k_ h_) (Nat.le_trans (Nat.le_trans (Nat.le_trans b54.size b61.size) g75.size) g90.size)))) (KpM.grown g116 (fun k_ e_=>by injection e_ with e_; subst e_; exact⟨by rw[hM_]; first|exact .inl rfl|exact .inr (.inl rfl)|exact .inr (.inr (.inl rfl)),fun h_=>by rcases h_ with h_|h_<;>omega⟩) (fun k_ h_=>Nat.lt_of_lt_of_le (hDw_ k_ h_) (Nat.le_trans (Nat.le_trans (Nat.le_trans (Nat.le_trans b54.size b61.size) g75.size) g90.size) g104.size)))),(fun k_ h_=>by rw[hM_]; rcases h_ with h_|h_|h_|h_|h_; (· exact .inl (.inl h_)); (· exact .inl (.inr (.inl h_))); (· exact .inl (.inr (.inr (.inl h_)))); (· exact(hincl_ k_ h_).imp (fun h1_=>.inr (.inr (.inr (.inl h1_)))) id); (· cases h_)),⟨_,[],_,A70,c71,none,0,by rw[lnRunE_nl c52,hrun_],k120,k117,k122,r128,(Kd.R_nil _ _ _ _ _),rfl,(fun k_ h_=>by rcases hincl_ k_ h_ with h1_|h1_; (· exact hA4_ k_ h1_); (· omega)),(fun k_ h_=>by cases h_),B129⟩⟩
  refine xr1 1 [(15,.eq bT)] [(15,bT)] [14] (nT c52) ?_
  refine nl (XI_cond true rfl ?_)
  refine XI_seq ?_
  refine XI_grow (by kernel_rfl) (fun _ _ h_=>h_) [4,5] 6 (tf 0 6) (by kernel_rfl) (by kernel_rfl) (by kernel_rfl) (fun wd130 b131 h132=>?_)
  refine XB_runC (fuel':=4) (Below.refl _ _) [0,1] [(16,.load (aL A5_ tx_ c5_)),(17,.load (.agg #[.int .i32 x_.2.1.rune,sT x_.2.1.kind,i6 x_.2.1.vk,i6 x_.2.1.vn,sT x_.2.1.vt,aL x_.2.2.1 x_.2.1.attrs x_.2.2.2]))] [.slice A5_ tx_.length c5_,.agg #[.int .i32 x_.2.1.rune,sT x_.2.1.kind,i6 x_.2.1.vk,i6 x_.2.1.vn,sT x_.2.1.vt,aL x_.2.2.1 x_.2.1.attrs x_.2.2.2]] (tf 2 4) [(16,aL A5_ tx_ c5_),(17,.agg #[.int .i32 x_.2.1.rune,sT x_.2.1.kind,i6 x_.2.1.vk,i6 x_.2.1.vn,sT x_.2.1.vt,aL x_.2.2.1 x_.2.1.attrs x_.2.2.2])] [6,7,8,15] (fun w_=>[la 150 (⟨w1.heap.size,0,none⟩) (aL A5_ tx_ c5_) w_,la 51 (⟨i_,0,none⟩) (.agg #[.int .i32 x_.2.1.rune,sT x_.2.1.kind,i6 x_.2.1.vk,i6 x_.2.1.vn,sT x_.2.1.vt,aL x_.2.2.1 x_.2.1.attrs x_.2.2.2]) w_]) (fun w_ hC_=>⟨loads1 rfl (Blk.cell (Blk.below hk5_ (bt b131 hC_)) 0 _ rfl),loadsB rfl rfl (Blk.below hki_ (bt b131 hC_)) 0 ⟨by kernel_rfl,by kernel_rfl⟩,trivial⟩) ?_
  refine XB_mid (fuel':=3) 2 (tf 3 3) _ rfl (by kernel_rfl) (by kernel_rfl) rfl ?_
  refine xc 106 ent106 [.agg #[.int .i32 x_.2.1.rune,sT x_.2.1.kind,i6 x_.2.1.vk,i6 x_.2.1.vn,sT x_.2.1.vt,aL x_.2.2.1 x_.2.1.attrs x_.2.2.2]] (letter_any x_.2.1 _ _ _) ?_
  rintro e w133 ⟨rfl,b134⟩; refine⟨_,rfl,?_⟩
  refine nl ?_
  refine⟨b134,?_⟩
  refine XB_mid (fuel':=2) 3 (tf 4 2) _ rfl (by kernel_rfl) (by kernel_rfl) rfl ?_
  refine xw 1 [] [(19,.slice (some ⟨w133.heap.size,0,none⟩) 1 1)] [17,18] (w133.alloc (.cells #[.int .i32 (letL x_.2.1)] 21)) [] trivial ?_
  obtain⟨w135,w139,b136,k137,z138⟩:=new_world w133 #[.int .i32 (letL x_.2.1)] 21
  rw[w139]
  refine nl ?_
  refine⟨(bt b134 b136),?_⟩
  refine XB_act (fuel':=1) 4 (tf 5 1) _ rfl (by kernel_rfl) rfl (by kernel_rfl) rfl ?_
  rw[←w139]
  refine XL_append (Kd.int .i32) rfl rfl rfl w.heap.size 21 (.int .i32 0) 4 Tryz.underlying150 info21 rfl (by decide) (by omega) tx_ (letL x_.2.1) [.int .i32 (letL x_.2.1)] (fun _=>False) (by kernel_rfl) rfl (fun _ h=>h.elim) (Kd.R_below hr5_ (bt b131 b134)) ((bt (bt hBw_ b131) b134)).size (by first|omega|(simp; omega)) ?_
  intro A140 c141 w142 r143 c144 g145 l146 a147
  have r149:=Kd.R_apart (Kd.R_below hr4_ (bt b131 b134)) (Kd.R_below hr5_ (bt b131 b134)) (by decide) g145
  have hne150:=RX.Kd.R_blk_ne (Kd.R_below hr5_ (bt b131 b134)) (Blk.below hk4_ (bt b131 b134)) rfl
  have k151:=Blk.ne (Blk.below hk4_ (bt b131 b134)) g145 hne150
  have hne152:=RX.Kd.R_blk_ne (Kd.R_below hr5_ (bt b131 b134)) (Blk.below hk5_ (bt b131 b134)) rfl
  have k153:=Blk.ne (Blk.below hk5_ (bt b131 b134)) g145 hne152
  have hne154:=RX.Kd.R_blk_ne (Kd.R_below hr5_ (bt b131 b134)) (Blk.below hk6_ (bt b131 b134)) rfl
  have k155:=Blk.ne (Blk.below hk6_ (bt b131 b134)) g145 hne154
  refine nl (XB_act (fuel':=0) 5 (tf 6 0) _ rfl (by kernel_rfl) rfl (by kernel_rfl) rfl ?_)
  refine xst (aL A140 (tx_++[letL x_.2.1]) c141) k153 0 #[aL A140 (tx_++[letL x_.2.1]) c141] (fun w158 g159 k160 z161=>?_)
  have hne162:w.heap.size≠w1.heap.size:=Nat.ne_of_lt (Nat.lt_of_lt_of_le (Blk.lt k3) (Nat.le_refl _))
  have k163:=Blk.other k151 g159 hne162
  have hne164:w6.heap.size≠w1.heap.size:=Nat.ne_of_gt (Nat.lt_of_lt_of_le (Blk.lt k8) (Nat.le_refl _))
  have k165:=Blk.other k155 g159 hne164
  have r169:=Kd.R_off r143 k153 (by decide) g159
  have r170:=Kd.R_off r149 k153 (by decide) g159
  refine nl (XB_done (by kernel_rfl) ?_)
  refine XI_exit ?_
  have hDw_:∀ k_,(DI w.heap.size w16.heap.size w33.heap.size) k_→k_<W_.heap.size:=fun k_ h_=>by have:=hDt_ k_ h_; omega
  have hincl_:∀ k_,A140.map (·.block)=some k_→A5_.map (·.block)=some k_∨W_.heap.size≤k_:=fun k_ e_=>by rcases a147 with h_|⟨b_,h_,h2_⟩; (· rw[h_]at e_; exact .inl e_); (· rw[h_]at e_; injection e_ with e_; subst e_; exact .inr (Nat.le_trans (Nat.le_trans b131.size b134.size) h2_))
  have B171:Below w.heap.size w w158:=(bg (bgo (bt (bt hBw_ b131) b134) g145 l146 (Nat.le_refl _)) g159 (b2).size)
  exact⟨(KeepsFrom.trans (KeepsFrom.trans (KeepsFrom.trans (keeps_below b131) (keeps_below b134)) (keeps_row (Kd.R_below hr5_ (bt b131 b134)) g145)) (keeps_store k153 g159)),(fun k_=>k_=w.heap.size∨k_=w1.heap.size∨k_=w6.heap.size∨A4_.map (·.block)=some k_∨A140.map (·.block)=some k_),(KpM.trans (KpM.trans (KpM.trans (KpM.below (fun k_ h_=>Nat.lt_of_lt_of_le (hDw_ k_ h_) (Nat.le_refl _)) b131) (KpM.below (fun k_ h_=>Nat.lt_of_lt_of_le (hDw_ k_ h_) b131.size) b134)) (KpM.grown g145 (fun k_ e_=>⟨by rw[hM_]; first|exact .inr (.inr (.inr (.inl e_)))|exact .inr (.inr (.inr (.inr e_))),fun h_=>by first|(have h1_:=hA4_ k_ e_; rcases h_ with h_|h_<;>omega)|(have h1_:=hA5_ k_ e_; rcases h_ with h_|h_<;>omega)⟩) (fun k_ h_=>Nat.lt_of_lt_of_le (hDw_ k_ h_) (Nat.le_trans b131.size b134.size)))) (KpM.grown g159 (fun k_ e_=>by injection e_ with e_; subst e_; exact⟨by rw[hM_]; first|exact .inl rfl|exact .inr (.inl rfl)|exact .inr (.inr (.inl rfl)),fun h_=>by rcases h_ with h_|h_<;>omega⟩) (fun k_ h_=>Nat.lt_of_lt_of_le (hDw_ k_ h_) (Nat.le_trans (Nat.le_trans b131.size b134.size) g145.size)))),(fun k_ h_=>by rw[hM_]; rcases h_ with h_|h_|h_|h_|h_; (· exact .inl (.inl h_)); (· exact .inl (.inr (.inl h_))); (· exact .inl (.inr (.inr (.inl h_)))); (· exact .inl (.inr (.inr (.inr (.inl h_))))); (· exact(hincl_ k_ h_).imp (fun h1_=>.inr (.inr (.inr (.inr h1_)))) id)),⟨_,_,_,A4_,c4_,A140,c141,by rw[lnRunE_tx c52,hrun_],k163,k160,k165,r170,r169,rfl,hA4_,(fun k_ h_=>by rcases hincl_ k_ h_ with h1_|h1_; (· exact hA5_ k_ h1_); (· omega)),B171⟩⟩
 ·rintro D173 pre_ M_ w172 D174 S175 ⟨ls_,tx_,fr_,A4_,c4_,A5_,c5_,hrun_,hk4_,hk5_,hk6_,hr4_,hr5_,hM_,hA4_,hA5_,hBw_⟩ K176
  have hg4l_:=hk4_.lt
  have hg5l_:=hk5_.lt
  have hg6l_:=hk6_.lt
  have hlen2_:=lnRunE_len pre_
  rw[hrun_]at hlen2_
  replace hlen2_:ls_.length≤pre_.length∧tx_.length≤pre_.length:=hlen2_
  have hall_:=lnRunE_all (by omega) S175.1 S175.2
  rw[hrun_]at hall_
  have hlo_:w33.heap.size≤w33.heap.size:=Nat.le_refl _
  have hds_:Defs (D173::[]) w172:=Defs.cons K176 (fun _ h_=>by cases h_)
  have hdge_:∀ D_∈D173::[],w33.heap.size≤D_:=fun D_ hm_=>(List.mem_cons.1 hm_).elim (fun e_=>by omega) (fun h_=>by cases h_)
  refine sq (X_still (by kernel_rfl) (by kernel_rfl) (fun wd177 b178 h179=>?_))
  refine xse 3 [(35,.load (aL A4_ ls_ c4_)),(36,.load (aL A4_ ls_ c4_))] [(5,pw w1.heap.size 0),(35,aL A4_ ls_ c4_),(37,i6 (ls_.length:Int)),(1000000,encD (D173::[]))] [_,_] ⟨lc 66 (Blk.below hk4_ b178) 0,lc 66 (Blk.below hk4_ b178) 0,trivial⟩ ?_
  by_cases c180:(ls_.length:Int)>0
  ·refine xsC 4 [(38,.eq bT),(40,.load (aL A5_ tx_ c5_))] [(39,bT),(41,i6 (tx_.length:Int))] [5,37] [_,_] ⟨dT c180,lc 150 (Blk.below hk5_ b178) 0,trivial⟩ ?_
   by_cases c181:(tx_.length:Int)=0
   ·refine xsC 4 [(42,.eq bT)] [(2,aL A4_ ls_ c4_),(3,bT)] [35,39,41] [_] ⟨bE c181,trivial⟩ ?_
    refine XS_nil ?_
    refine X_ret (RX.retM_ok (P:=Tryz.prog) (fn:=Tryz.f103) (N:=44) (R:=R_) (ds:=(D173::[])) (dsOf_enc (by kernel_rfl)) (List.nodup_cons.2 ⟨fun h_=>(by cases h_),List.nodup_nil⟩) (Defs.below b178 hds_) [.slice A4_ ls_.length c4_,bT] (by kernel_rfl) (fun w_ ho_=>hR_ _ _ ?_))
    have hrz_:=Off.row ho_ (Defs.below b178 hds_) (Kd.R_below hr4_ b178)
    have hen_:lnEnds (cellsAll xs)=true:=by unfold lnEnds; rw[←hall_.1,←hall_.2]; show (decide (0<ls_.length)&&decide (tx_.length=0))=_; rw[decide_eq_true (p:=0<ls_.length) (by omega),decide_eq_true (p:=tx_.length=0) (by omega)]; rfl
    rw[hen_]
    exact⟨A4_,c4_,ls_,hall_.1,rfl,(RX.Kd.R_len hrz_).2,hrz_,Off.below ho_ (bt hBw_ b178) (fun D_ hm_=>Nat.le_trans ((bt B32 b34)).size (hdge_ D_ hm_))⟩
   refine xsC 4 [(42,.eq bF)] [(2,aL A4_ ls_ c4_),(3,bF)] [35,39,41] [_] ⟨bN c181,trivial⟩ ?_
   refine XS_nil ?_
   refine X_ret (RX.retM_ok (P:=Tryz.prog) (fn:=Tryz.f103) (N:=44) (R:=R_) (ds:=(D173::[])) (dsOf_enc (by kernel_rfl)) (List.nodup_cons.2 ⟨fun h_=>(by cases h_),List.nodup_nil⟩) (Defs.below b178 hds_) [.slice A4_ ls_.length c4_,bF] (by kernel_rfl) (fun w_ ho_=>hR_ _ _ ?_))
   have hrz_:=Off.row ho_ (Defs.below b178 hds_) (Kd.R_below hr4_ b178)
   have hen_:lnEnds (cellsAll xs)=false:=by unfold lnEnds; rw[←hall_.1,←hall_.2]; show (decide (0<ls_.length)&&decide (tx_.length=0))=_; rw[decide_eq_false (p:=tx_.length=0) (by omega),Bool.and_false]
   rw[hen_]
   exact⟨A4_,c4_,ls_,hall_.1,rfl,(RX.Kd.R_len hrz_).2,hrz_,Off.below ho_ (bt hBw_ b178) (fun D_ hm_=>Nat.le_trans ((bt B32 b34)).size (hdge_ D_ hm_))⟩
  refine xsC 8 [(38,.eq bF)] [(2,aL A4_ ls_ c4_),(3,bF)] [5,35,37] [_] ⟨dF c180,trivial⟩ ?_
  refine XS_nil ?_
  refine X_ret (RX.retM_ok (P:=Tryz.prog) (fn:=Tryz.f103) (N:=44) (R:=R_) (ds:=(D173::[])) (dsOf_enc (by kernel_rfl)) (List.nodup_cons.2 ⟨fun h_=>(by cases h_),List.nodup_nil⟩) (Defs.below b178 hds_) [.slice A4_ ls_.length c4_,bF] (by kernel_rfl) (fun w_ ho_=>hR_ _ _ ?_))
  have hrz_:=Off.row ho_ (Defs.below b178 hds_) (Kd.R_below hr4_ b178)
  have hen_:lnEnds (cellsAll xs)=false:=by unfold lnEnds; rw[←hall_.1,←hall_.2]; show (decide (0<ls_.length)&&decide (tx_.length=0))=_; rw[decide_eq_false (p:=0<ls_.length) (by omega)]; rfl
  rw[hen_]
  exact⟨A4_,c4_,ls_,hall_.1,rfl,(RX.Kd.R_len hrz_).2,hrz_,Off.below ho_ (bt hBw_ b178) (fun D_ hm_=>Nat.le_trans ((bt B32 b34)).size (hdge_ D_ hm_))⟩
 rintro D183 c_ pre_ w182 D184 S185 hix_ K186
 exact hix_.elim
end Go.Proofs.YtgphmfnkeolbcaaGreatDoor
