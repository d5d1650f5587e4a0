import Derived.Test.YtgphmfnkeolbcaaGreatDoorT50
import Derived.Test.YtgphmfnkeolbcaaGreatDoorIn
import Derived.Test.YtgphmfnkeolbcaaGreatDoorGl2
/- vellumlaw09.told where no more is told than asked. Conditions: sizes, the tables of utf8, the errors' variables. -/
set_option linter.unusedVariables false
set_option linter.unusedSimpArgs false
set_option maxRecDepth 100000
namespace Go.Proofs.YtgphmfnkeolbcaaGreatDoor
open Go Go.RowKit Go.Proofs.YtgphmfnkeolbcaaGreatDoorW.PrintWords RX
theorem ent26 :Ent Tryz.prog 26:=ent_of Tryz.func26 (by kernel_rfl) rfl
theorem R_empty {α:Type}(d:Kd α){w:World}{g e base:Nat}{ok:Nat→Prop}(hb:RX.Blk w g e #[])(hg:base≤g)(hok:ok g):d.R e w base ok (.slice (some ⟨g,0,none⟩) ([]:List α).length 0) []:=
 ⟨fun k hk=>by simp[Value.ownBlock]at hk; exact hk▸hok,[],⟨by simp,.inr ⟨g,0,#[],rfl,hg,hb,Nat.le_refl _,Nat.zero_le _,by simp,by simp⟩⟩,Reps.none _ _⟩
def RowJ (w:World)(g6 lo hi:Nat)(pre:List ElA)(M:Nat→Prop)(W:World):Prop:=
 ∃ zs A6 c6,zs=pre.map (fun x:ElA=>x.2.1)∧RX.Blk W g6 39 #[aL A6 zs c6]∧kCell.R 51 W w.heap.size (OkFrom w.heap.size) (aL A6 zs c6) zs∧M=(fun k=>k=g6∨A6.map (·.block)=some k)∧(∀ k,A6.map (·.block)=some k→(w.heap.size≤k∧k<lo)∨hi≤k)∧Below w.heap.size w W
theorem RowJ.own {w:World}{g6 lo hi B:Nat}(h:w.heap.size≤B)(M:Nat→Prop):OwnFrom B (fun s W=>RowJ w g6 lo hi s M W):=by
 rintro s W W' row ⟨zs,A6,c6,h1,h2,h3,h4,h5,h6⟩ hg hr
 exact⟨zs,A6,c6,h1,RX.ownFrom_blk (β:=Unit) (B:=B) (fun _=>g6) _ (fun _=>_) () W W' row h2 hg hr,RX.ownFrom_R (β:=Unit) (B:=B) kCell _ w.heap.size (fun _=>_) (fun _=>zs) () W W' row h3 hg hr,h4,h5,RX.ownFrom_below' (β:=Unit) w h () W W' row h6 hg hr⟩
theorem RowJ.im {w:World}{g6 lo hi:Nat}{pre:List ElA}{M:Nat→Prop}{W:World}(h:RowJ w g6 lo hi pre M W)(h1:w.heap.size≤g6)(h2:g6<lo)(h3:lo≤hi):∀ k,M k→¬DI w.heap.size lo hi k∧k<W.heap.size:=by
 obtain⟨zs,A6,c6,e1,e2,e3,rfl,e5,e6⟩:=h
 rintro k (rfl|hk)
 ·exact⟨fun h=>by rcases h with h|h<;>omega,e2.lt⟩
 have:=e5 k hk
 exact⟨fun h=>by rcases h with h|h<;>omega,Kd.R_lt e3 k hk⟩
set_option maxHeartbeats 1000000 in
theorem told9l_any (d:Nat)(most:Int)(xs ys:List OpA)(w:World)(hd:DeltaC w d xs)(hb:badE xs=0)(hn:xs.length≤1100000)(hz:∀ i,i<xs.length→opSz (xs.getD i op0))(hy:ys=(if isDoc xs=true then xs else []))(hr:∀ t,t<ys.length→refuseP (ys.getD t op0)=0)(hL:(cellsAll ys).length≤100000000)(hmo:((cellsAll ys).length:Int)≤most)(hT:Tabs w)(es:List Addr)(hE:ErrsC w es):Calls Tryz.prog 26 #[pw d 0,i6 most] w fun e w'=>∃ A' c' zs,zs=cellsAll ys∧e=.returned (.tuple #[.slice A' zs.length c',bT])∧zs.length≤c'∧kCell.R 51 w' w.heap.size (OkFrom w.heap.size) (.slice A' zs.length c') zs∧Below w.heap.size w w':=by
 have hny:ys.length≤xs.length:=by rw[hy]; split<;>simp
 have hzy:∀ t,t<ys.length→opSz (ys.getD t op0):=by rw[hy]; split<;>intro t ht; (· exact hz t ht); (· simp at ht)
 refine RX.enterM Tryz.func26 rfl 35 rfl [(0,pw d 0),(1,i6 most)] rfl (by kernel_rfl) (fun R_ hR_=>?_)
 refine RX.X_mark0 rfl ?_
 refine sg (xwe 1 [] [(0,pw d 0),(3,pw w.heap.size 0),(1000000,encD [])] (w.alloc (.cells #[i6 most] 3)) [] trivial ?_)
 obtain⟨w1,w5,b2,k3,z4⟩:=new_world w #[i6 most] 3
 rw[w5]
 refine xw 1 [] [(4,pw w1.heap.size 0)] [] (w1.alloc (.cells #[.slice none 0 0] 39)) [] trivial ?_
 obtain⟨w6,w10,b7,k8,z9⟩:=new_world w1 #[.slice none 0 0] 39
 rw[w10]
 refine xw 1 [] [(5,pw w6.heap.size 0)] [] (w6.alloc (.cells #[bF] 4)) [] trivial ?_
 obtain⟨w11,w15,b12,k13,z14⟩:=new_world w6 #[bF] 4
 rw[w15]
 refine nl (sg (xw 1 [] [(10,.slice (some ⟨w11.heap.size,0,none⟩) 0 0)] [] (w11.alloc (.cells #[] 51)) [] trivial ?_))
 obtain⟨w16,w20,b17,k18,z19⟩:=new_world w11 #[] 51
 rw[w20]
 refine xw 1 [] [(6,pw w16.heap.size 0)] [] (w16.alloc (.cells #[.slice none 0 0] 39)) [] trivial ?_
 obtain⟨w21,w25,b22,k23,z24⟩:=new_world w16 #[.slice none 0 0] 39
 rw[w25]
 refine xst (.slice (some ⟨w11.heap.size,0,none⟩) 0 0) k23 0 #[.slice (some ⟨w11.heap.size,0,none⟩) 0 0] (fun w26 g27 k28 z29=>?_)
 have hne30:w.heap.size≠w16.heap.size:=Blk.tne (Blk.below k3 (bt (bt (bt b7 b12) b17) b22)) k23 rfl
 have k31:=Blk.other (Blk.below k3 (bt (bt (bt b7 b12) b17) b22)) g27 hne30
 have hne32:w6.heap.size≠w16.heap.size:=Blk.tne (Blk.below k13 (bt b17 b22)) k23 rfl
 have k33:=Blk.other (Blk.below k13 (bt b17 b22)) g27 hne32
 have hne34:w11.heap.size≠w16.heap.size:=Blk.tne (Blk.below k18 b22) k23 rfl
 have k35:=Blk.other (Blk.below k18 b22) g27 hne34
 refine nl (sg (xr0 1 [(11,pw d 0)] [0,10] ?_))
 have B44:Below w.heap.size w w26:=(bg (bt (bt (bt (bt b2 b7) b12) b17) b22) g27 ((bt (bt (bt b2 b7) b12) b17)).size)
 refine xc 97 ent97 [pw d 0] (ceach_any d xs _ (hd.below B44) hb hn hz) ?_
 rintro e w45 ⟨g36,A37,c38,zs39,ez40,rfl,hge41,k42,r43,b46⟩; refine⟨_,rfl,?_⟩
 rw[←hy]at ez40; rw[ez40]at k42 r43
 have hr9_:kOp.R 102 w45 w26.heap.size (fun k_=>w26.heap.size≤k_∧k_<w45.heap.size) (aL A37 ys c38) ys:=Kd.R_mono (Kd.R_bound r43) (fun k_ hk_=>⟨hk_.2.1,hk_.2.2.1⟩)
 have hgl_:=k42.lt
 refine xe0 1 [(3,pw w.heap.size 0),(4,pw w1.heap.size 0),(5,pw w6.heap.size 0),(6,pw w16.heap.size 0),(7,.func (.func 159) #[] #[pw g36 0]),(1000000,encD [])] ?_
 refine nl (sq (sg (xr0 2 [(14,bF)] [] ?_)))
 refine nl (cf (sk (sq (sg (xr0 1 [(16,.func (.func 159) #[] #[pw g36 0])] [7,14] ?_)))))
 refine nl (X_block ?_)
 have hw6_:w.heap.size≤w16.heap.size:=((bt (bt (bt b2 b7) b12) b17)).size
 have h6lo_:w16.heap.size<w26.heap.size:=Nat.lt_of_lt_of_le (Blk.lt k23) g27.size
 have hlh_:w26.heap.size≤w45.heap.size:=(b46).size
 have hwl_:w.heap.size≤w26.heap.size:=(B44).size
 have hDt_:∀ k_,(DI w.heap.size w26.heap.size w45.heap.size) k_→k_<w45.heap.size:=fun k_ h_=>by rcases h_ with h_|h_<;>omega
 have B47:Below w6.heap.size w6 w45:=(bt (bg (bt (bt b12 b17) b22) g27 ((bt b12 b17)).size) b46)
 have B48:Below w1.heap.size w1 w26:=(bg (bt (bt (bt b7 b12) b17) b22) g27 ((bt (bt b7 b12) b17)).size)
 have hq3_:w.heap.size≤w.heap.size∧w.heap.size<w26.heap.size:=⟨(Nat.le_refl _),Nat.lt_of_lt_of_le (Blk.lt k3) (B48).size⟩
 have B49:Below w6.heap.size w6 w26:=(bg (bt (bt b12 b17) b22) g27 ((bt b12 b17)).size)
 have hq4_:w.heap.size≤w1.heap.size∧w1.heap.size<w26.heap.size:=⟨(b2).size,Nat.lt_of_lt_of_le (Blk.lt k8) (B49).size⟩
 have hq5_:w.heap.size≤w6.heap.size∧w6.heap.size<w26.heap.size:=⟨((bt b2 b7)).size,Nat.lt_of_lt_of_le (Blk.lt k13) ((bg (bt b17 b22) g27 (b17).size)).size⟩
 have hqa_:w.heap.size≤w11.heap.size∧w11.heap.size<w26.heap.size:=⟨((bt (bt b2 b7) b12)).size,Nat.lt_of_lt_of_le (Blk.lt k18) ((bg b22 g27 (Nat.le_refl _))).size⟩
 refine X_rangeM (α:=ElA) (ι:=Nat) rfl ent159 (encs:=elV) (ceach_seq (DI w.heap.size w26.heap.size w45.heap.size) (fun k_=>w26.heap.size≤k_∧k_<w45.heap.size) w26.heap.size g36 A37 c38 ys w w45 hr9_ (fun k_ h_=>.inr h_) (fun k_ h_=>.inl h_) hDt_ (bt B44 b46) (by omega) hr hzy hT es hE k42 (by omega)) (Below.refl _ _) hDt_ (fun _=>rfl) (by kernel_rfl) (fun pre_ M_ W_=>RowJ w w16.heap.size w26.heap.size w45.heap.size pre_ M_ W_∧RX.Blk W_ w.heap.size 3 #[i6 most]∧RX.Blk W_ w1.heap.size 39 #[.slice none 0 0]∧RX.Blk W_ w6.heap.size 4 #[bF]) (fun c_ pre_ W_=>∃ p_ y_,pre_=p_++[y_]∧(y_:ElA).1≠(p_.length:Int)) (fun M_=>OwnFrom.and (RowJ.own ((bt B44 b46)).size M_) (OwnFrom.and (ownFrom_blk (fun _=>_) _ (fun _=>_)) (OwnFrom.and (ownFrom_blk (fun _=>_) _ (fun _=>_)) (ownFrom_blk (fun _=>_) _ (fun _=>_))))) (fun _=>RX.ownFrom_pure _) (fun _ _ _ h_=>RowJ.im h_.1 hw6_ h6lo_ hlh_) (fun k_=>k_=w16.heap.size∨((some ⟨w11.heap.size,0,none⟩):Option Addr).map (·.block)=some k_) ⟨⟨[],(some ⟨w11.heap.size,0,none⟩),0,rfl,(Blk.below k28 b46),(R_empty kCell (Blk.below k35 b46) hqa_.1 hqa_.1),rfl,(fun k_ h_=>.inl (by injection h_ with h_; subst h_; exact hqa_)),(bt B44 b46)⟩,(Blk.below k31 b46),(Blk.below k8 B47),(Blk.below k33 b46)⟩ (fun x_ i_ W_=>RX.Blk W_ i_ 51 #[.int .i32 x_.2.1.rune,sT x_.2.1.kind,i6 x_.2.1.vk,i6 x_.2.1.vn,sT x_.2.1.vt,aL x_.2.2.1 x_.2.1.attrs x_.2.2.2]∧ElPx w45.heap.size x_ W_) (fun i_=>OwnFrom.and (ownFrom_blk (fun _=>i_) 51 (fun(x_:ElA)=>#[.int .i32 x_.2.1.rune,sT x_.2.1.kind,i6 x_.2.1.vk,i6 x_.2.1.vn,sT x_.2.1.vt,aL x_.2.2.1 x_.2.1.attrs x_.2.2.2])) ownFrom_px) (fun x_ i_=>[(3,pw w.heap.size 0),(4,pw w1.heap.size 0),(5,pw w6.heap.size 0),(6,pw w16.heap.size 0),(8,i6 x_.1),(9,pw i_ 0)]) ?_ ?_ ?_ ?_
 ·rintro lp_ pre_ M_ x_ W_ hlp_ hws_ ⟨⟨zs_,A6_,c6_,hz_,hk6_,hr6_,hM_,hA6_,hBw_⟩,hb3_,hb4_,hb5_⟩ hpx_ hlen_
  have hg6l_:=hk6_.lt
  have hzl_:zs_.length=pre_.length:=by rw[hz_,List.length_map]
  refine XI_keep [3,4,5,6,16,17,18] [(3,pw w.heap.size 0),(4,pw w1.heap.size 0),(5,pw w6.heap.size 0),(6,pw w16.heap.size 0),(16,.func (.func 159) #[] #[pw g36 0]),(17,i6 x_.1),(18,.agg #[.int .i32 x_.2.1.rune,sT x_.2.1.kind,i6 x_.2.1.vk,i6 x_.2.1.vn,sT x_.2.1.vt,aL x_.2.2.1 x_.2.1.attrs x_.2.2.2])] (by kernel_rfl) ?_
  refine XI_seq ?_
  refine XI_region (by kernel_rfl) (fun _ _ h_=>h_) ?_
  refine xe0 1 [(3,pw w.heap.size 0),(4,pw w1.heap.size 0),(5,pw w6.heap.size 0),(6,pw w16.heap.size 0),(8,i6 x_.1),(18,.agg #[.int .i32 x_.2.1.rune,sT x_.2.1.kind,i6 x_.2.1.vk,i6 x_.2.1.vn,sT x_.2.1.vt,aL x_.2.2.1 x_.2.1.attrs x_.2.2.2])] ?_
  refine nl (XI_region (by kernel_rfl) (fun _ _ h_=>h_) ?_)
  refine xw 1 [] [(9,pw W_.heap.size 0)] [] (W_.alloc (.cells #[.int .i32 0,s0,i6 0,i6 0,s0,.slice none 0 0] 51)) [] trivial ?_
  obtain⟨w50,w54,b51,k52,z53⟩:=new_world W_ #[.int .i32 0,s0,i6 0,i6 0,s0,.slice none 0 0] 51
  rw[w54]
  refine xst (.agg #[.int .i32 x_.2.1.rune,sT x_.2.1.kind,i6 x_.2.1.vk,i6 x_.2.1.vn,sT x_.2.1.vt,aL x_.2.2.1 x_.2.1.attrs x_.2.2.2]) k52 0 #[.int .i32 x_.2.1.rune,sT x_.2.1.kind,i6 x_.2.1.vk,i6 x_.2.1.vn,sT x_.2.1.vt,aL x_.2.2.1 x_.2.1.attrs x_.2.2.2] (fun w55 g56 k57 z58=>?_)
  have hne59:w16.heap.size≠W_.heap.size:=Blk.tne (Blk.below hk6_ b51) k52 rfl
  have k60:=Blk.other (Blk.below hk6_ b51) g56 hne59
  have hne61:w.heap.size≠W_.heap.size:=Blk.tne (Blk.below hb3_ b51) k52 rfl
  have k62:=Blk.other (Blk.below hb3_ b51) g56 hne61
  have hne63:w1.heap.size≠W_.heap.size:=Blk.tne (Blk.below hb4_ b51) k52 rfl
  have k64:=Blk.other (Blk.below hb4_ b51) g56 hne63
  have hne65:w6.heap.size≠W_.heap.size:=Blk.tne (Blk.below hb5_ b51) k52 rfl
  have k66:=Blk.other (Blk.below hb5_ b51) g56 hne65
  refine nl ?_
  have hDw_:∀ k_,(DI w.heap.size w26.heap.size w45.heap.size) k_→k_<W_.heap.size:=fun k_ h_=>by have:=hDt_ k_ h_; omega
  exact⟨W_.heap.size,by kernel_rfl,(KeepsFrom.trans (keeps_below b51) (keeps_store k52 g56)),KpM.below hDw_ ((bg b51 g56 (Nat.le_refl _)):Below W_.heap.size W_ w55),⟨⟨zs_,A6_,c6_,hz_,k60,(Kd.R_below hr6_ (bg b51 g56 (Nat.le_refl _))),hM_,hA6_,(bg (bt hBw_ b51) g56 (hBw_).size)⟩,k62,k64,k66⟩,k57,ElPx.below ((bg b51 g56 (Nat.le_refl _)):Below W_.heap.size W_ w55) hpx_⟩
 ·rintro lp_ pre_ M_ x_ i_ W_ hlp_ hws_ ⟨⟨zs_,A6_,c6_,hz_,hk6_,hr6_,hM_,hA6_,hBw_⟩,hb3_,hb4_,hb5_⟩ ⟨hk8_,hpx_⟩ hlen_
  have hg6l_:=hk6_.lt
  have hzl_:zs_.length=pre_.length:=by rw[hz_,List.length_map]
  obtain⟨hx0_,hxl_,wb_,hwb_,hlk_,hra_⟩:=hpx_
  refine XI_block ?_
  refine XI_seq ?_
  refine XI_seq ?_
  refine XI_region (by kernel_rfl) (fun _ _ h_=>h_) ?_
  refine xe1 3 [(20,.load (aL A6_ zs_ c6_))] [(3,pw w.heap.size 0),(4,pw w1.heap.size 0),(5,pw w6.heap.size 0),(6,pw w16.heap.size 0),(9,pw i_ 0),(19,i6 x_.1),(21,i6 (zs_.length:Int))] (lc 39 hk6_ 0) ?_
  by_cases c67:x_.1=(zs_.length:Int)
  ·refine xr 5 [(22,.eq bF),(24,.load (aL A6_ zs_ c6_)),(26,.load (i6 most))] [(23,bF),(25,i6 (zs_.length:Int)),(26,i6 most)] [3,19,21] [_,_,_] ⟨nF c67,lc 39 hk6_ 0,lc 3 hb3_ 0,trivial⟩ ?_
   by_cases c68:(zs_.length:Int)>most
   ·exfalso; omega
   refine xr1 2 [(27,.eq bF)] [(28,bF)] [23,25,26] (dF c68) ?_
   refine nl (XI_cond false rfl ?_)
   refine XI_skip ?_
   refine XI_region (by kernel_rfl) (fun _ _ h_=>h_) ?_
   refine xw 3 [(30,.load (aL A6_ zs_ c6_)),(31,.load (.agg #[.int .i32 x_.2.1.rune,sT x_.2.1.kind,i6 x_.2.1.vk,i6 x_.2.1.vn,sT x_.2.1.vt,aL x_.2.2.1 x_.2.1.attrs x_.2.2.2]))] [(30,aL A6_ zs_ c6_),(32,.slice (some ⟨W_.heap.size,0,none⟩) 1 1)] [9,28] (W_.alloc (.cells #[.int .i32 x_.2.1.rune,sT x_.2.1.kind,i6 x_.2.1.vk,i6 x_.2.1.vn,sT x_.2.1.vt,aL x_.2.2.1 x_.2.1.attrs x_.2.2.2] 51)) [_,la 51 (⟨i_,0,none⟩) (.agg #[.int .i32 x_.2.1.rune,sT x_.2.1.kind,i6 x_.2.1.vk,i6 x_.2.1.vn,sT x_.2.1.vt,aL x_.2.2.1 x_.2.1.attrs x_.2.2.2]) W_] ⟨lc 39 hk6_ 0,loadsB rfl rfl hk8_ 0 ⟨by kernel_rfl,by kernel_rfl⟩,trivial⟩ ?_
   obtain⟨w69,w73,b70,k71,z72⟩:=new_world W_ #[.int .i32 x_.2.1.rune,sT x_.2.1.kind,i6 x_.2.1.vk,i6 x_.2.1.vn,sT x_.2.1.vt,aL x_.2.2.1 x_.2.1.attrs x_.2.2.2] 51
   rw[w73]
   obtain⟨okp74,M75,hok76⟩:=Kd.M_rowApart hra_ (Nat.le_trans ((bt B44 b46)).size hwb_) hr6_ (by decide)
   rw[←w73]
   refine XL_append kCell rfl rfl rfl w.heap.size 51 (.agg #[.int .i32 0,s0,i6 0,i6 0,s0,.slice none 0 0]) 80 Tryz.underlying39 info51 rfl (by decide) (by omega) zs_ (⟨x_.2.1.rune,x_.2.1.kind,x_.2.1.vk,x_.2.1.vn,x_.2.1.vt,x_.2.1.attrs⟩:CellA) [.int .i32 x_.2.1.rune,sT x_.2.1.kind,i6 x_.2.1.vk,i6 x_.2.1.vn,sT x_.2.1.vt,aL x_.2.2.1 x_.2.1.attrs x_.2.2.2] okp74 (by kernel_rfl) (kCell_M (x:=(⟨x_.2.1.rune,x_.2.1.kind,x_.2.1.vk,x_.2.1.vn,x_.2.1.vt,x_.2.1.attrs⟩:CellA)) M75) hok76 hr6_ (hBw_).size (by first|omega|(simp; omega)) ?_
   intro A77 c78 w79 r80 c81 g82 l83 a84
   have hne86:=RX.Kd.R_blk_ne hr6_ hk6_ rfl
   have k87:=Blk.ne hk6_ g82 hne86
   have hne88:=RX.Kd.R_blk_ne hr6_ hb3_ rfl
   have k89:=Blk.ne hb3_ g82 hne88
   have hne90:=RX.Kd.R_blk_ne hr6_ hb4_ rfl
   have k91:=Blk.ne hb4_ g82 hne90
   have hne92:=RX.Kd.R_blk_ne hr6_ hb5_ rfl
   have k93:=Blk.ne hb5_ g82 hne92
   have e94:(zs_++[(⟨x_.2.1.rune,x_.2.1.kind,x_.2.1.vk,x_.2.1.vn,x_.2.1.vt,x_.2.1.attrs⟩:CellA)])=(zs_++[x_.2.1]):=rfl
   rw[e94]at r80 ⊢
   refine xst (aL A77 (zs_++[x_.2.1]) c78) k87 0 #[aL A77 (zs_++[x_.2.1]) c78] (fun w95 g96 k97 z98=>?_)
   have k99:=Blk.other k89 g96 hne30
   have hne100:w1.heap.size≠w16.heap.size:=Nat.ne_of_lt (Nat.lt_of_lt_of_le (Blk.lt k8) ((bt b12 b17)).size)
   have k101:=Blk.other k91 g96 hne100
   have k102:=Blk.other k93 g96 hne32
   have r104:=Kd.R_off r80 k87 (by decide) g96
   refine nl ?_
   have hDw_:∀ k_,(DI w.heap.size w26.heap.size w45.heap.size) k_→k_<W_.heap.size:=fun k_ h_=>by have:=hDt_ k_ h_; omega
   have hincl_:∀ k_,A77.map (·.block)=some k_→A6_.map (·.block)=some k_∨W_.heap.size≤k_:=fun k_ e_=>by rcases a84 with h_|⟨b_,h_,h2_⟩; (· rw[h_]at e_; exact .inl e_); (· rw[h_]at e_; injection e_ with e_; subst e_; exact .inr (Nat.le_trans (Nat.le_refl _) h2_))
   have B105:Below w.heap.size w w95:=(bg (bgo hBw_ g82 l83 (Nat.le_refl _)) g96 ((bt (bt (bt b2 b7) b12) b17)).size)
   exact⟨(KeepsFrom.trans (keeps_row hr6_ g82) (keeps_store k87 g96)),fun k_=>k_=w16.heap.size∨A77.map (·.block)=some k_,(KpM.trans (KpM.grown g82 (fun k_ e_=>⟨by rw[hM_]; exact .inr e_,fun h_=>by have h1_:=hA6_ k_ e_; rcases h_ with h_|h_<;>omega⟩) (fun k_ h_=>Nat.lt_of_lt_of_le (hDw_ k_ h_) (Nat.le_refl _))) (KpM.grown g96 (fun k_ e_=>by injection e_ with e_; subst e_; exact⟨by rw[hM_]; exact .inl rfl,fun h_=>by rcases h_ with h_|h_<;>omega⟩) (fun k_ h_=>Nat.lt_of_lt_of_le (hDw_ k_ h_) g82.size))),(fun k_ h_=>by rcases h_ with h_|h_; (· exact .inl (by rw[hM_]; exact .inl h_)); (· exact(hincl_ k_ h_).imp (fun h1_=>by rw[hM_]; exact .inr h1_) id)),⟨⟨_,A77,c78,by rw[hz_,List.map_append]; rfl,k97,r104,rfl,(fun k_ h_=>by rcases hincl_ k_ h_ with h1_|h1_; (· exact hA6_ k_ h1_); (· omega)),B105⟩,k99,k101,k102⟩⟩
  refine xr1 7 [(22,.eq bT)] [(28,bT)] [3,19,21] (nT c67) ?_
  refine nl (XI_cond true rfl ?_)
  refine XI_seq ?_
  refine XI_region (by kernel_rfl) (fun _ _ h_=>h_) ?_
  refine xr1 1 [(29,.load (aL A6_ zs_ c6_))] [(29,aL A6_ zs_ c6_)] [6,9,28] (lc 39 hk6_ 0) ?_
  refine xst (aL A6_ zs_ c6_) hb4_ 0 #[aL A6_ zs_ c6_] (fun w106 g107 k108 z109=>?_)
  have hne114:w6.heap.size≠w1.heap.size:=Nat.ne_of_gt (Nat.lt_of_lt_of_le (Blk.lt k8) (Nat.le_refl _))
  have k115:=Blk.other hb5_ g107 hne114
  refine xst bF k115 0 #[bF] (fun w120 g121 k122 z123=>?_)
  refine nl (XI_ret ?_)
  exact⟨(KeepsFrom.trans (keeps_store hb4_ g107) (keeps_store k115 g121)),pre_,x_,rfl,by rw[←hzl_]; exact c67⟩
 ·rintro D135 pre_ M_ w134 D136 S137 ⟨⟨zs_,A6_,c6_,hz_,hk6_,hr6_,hM_,hA6_,hBw_⟩,hb3_,hb4_,hb5_⟩ K138
  have hg6l_:=hk6_.lt
  have hzl_:zs_.length=pre_.length:=by rw[hz_,List.length_map]
  have hall_:=EOK.all S137.1 S137.2
  rw[←hz_]at hall_
  have hlo_:w45.heap.size≤w45.heap.size:=Nat.le_refl _
  have hds_:Defs (D135::[]) w134:=Defs.cons K138 (fun _ h_=>by cases h_)
  have hdge_:∀ D_∈D135::[],w45.heap.size≤D_:=fun D_ hm_=>(List.mem_cons.1 hm_).elim (fun e_=>by omega) (fun h_=>by cases h_)
  refine sg (xe1 1 [(34,.load (aL A6_ zs_ c6_))] [(4,pw w1.heap.size 0),(5,pw w6.heap.size 0),(34,aL A6_ zs_ c6_),(1000000,encD (D135::[]))] (lc 39 hk6_ 0) ?_)
  refine xst (aL A6_ zs_ c6_) hb4_ 0 #[aL A6_ zs_ c6_] (fun w139 g140 k141 z142=>?_)
  have hne147:w6.heap.size≠w1.heap.size:=Nat.ne_of_gt (Nat.lt_of_lt_of_le (Blk.lt k8) (Nat.le_refl _))
  have k148:=Blk.other hb5_ g140 hne147
  have r149:=Kd.R_off hr6_ hb4_ (by decide) g140
  refine xst bT k148 0 #[bT] (fun w150 g151 k152 z153=>?_)
  have hne158:w1.heap.size≠w6.heap.size:=Nat.ne_of_lt (Nat.lt_of_lt_of_le (Blk.lt k8) (Nat.le_refl _))
  have k159:=Blk.other k141 g151 hne158
  have r160:=Kd.R_off r149 k148 (by decide) g151
  refine nl (X_ret (RX.retM_cell2 (P:=Tryz.prog) (fn:=Tryz.f26) (N:=35) (R:=R_) (c:=4) (c2:=5) (t:=39) (t2:=4) (p:=⟨w1.heap.size,0,none⟩) (p2:=⟨w6.heap.size,0,none⟩) (v:=aL A6_ zs_ c6_) (v2:=bT) (ds:=(D135::[])) (dsOf_enc (by kernel_rfl)) (List.nodup_cons.2 ⟨fun h_=>(by cases h_),List.nodup_nil⟩) (Defs.store k148 g151 (Defs.store hb4_ g140 hds_)) rfl rfl rfl k159 k152 (fun w_ hb_=>loads1 rfl (Blk.cell hb_ 0 _ rfl)) (fun w_ hb_=>loads1 rfl (Blk.cell hb_ 0 _ rfl)) (fun w_ ho_=>hR_ _ _ ?_)))
  have B161:Below w.heap.size w w150:=(bg (bg hBw_ g140 (b2).size) g151 ((bt b2 b7)).size)
  have hrz_:=Off.row ho_ (Defs.store k148 g151 (Defs.store hb4_ g140 hds_)) r160
  exact⟨A6_,c6_,zs_,hall_,rfl,(RX.Kd.R_len hrz_).2,hrz_,Off.below ho_ B161 (fun D_ hm_=>Nat.le_trans ((bt B44 b46)).size (hdge_ D_ hm_))⟩
 rintro D163 c_ pre_ w162 D164 S165 hix_ K166
 obtain⟨p_,y_,rfl,hne_⟩:=hix_; exact absurd (EOK.last S165).2.1 hne_
end Go.Proofs.YtgphmfnkeolbcaaGreatDoor
