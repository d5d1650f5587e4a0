import Derived.Test.YtgphmfnkeolbcaaGreatDoorT51
import Derived.Test.YtgphmfnkeolbcaaGreatDoorIn
/- cells.List: a document's cells, new memory. Conditions: sizes, the tables of utf8, the errors' variables. -/

set_option linter.unusedVariables false
set_option linter.unusedSimpArgs false
set_option maxRecDepth 100000
namespace Go.Proofs.YtgphmfnkeolbcaaGreatDoor
open Go Go.RowKit Go.Proofs.YtgphmfnkeolbcaaGreatDoorW.PrintWords RX
theorem ent24 :Ent Tryz.prog 24:=ent_of Tryz.func24 (by kernel_rfl) rfl
set_option maxHeartbeats 1000000 in
theorem clistE_any (d:Nat)(xs:List OpA)(w:World)(hd:DeltaC w d xs)(hb:badE xs=0)(hn:xs.length≤1100000)(hz:∀ i,i<xs.length→opSz (xs.getD i op0))(hr:isDoc xs=true→∀ t,t<xs.length→refuseP (xs.getD t op0)=0)(hL:(cellsAll xs).length≤100000000)(hT:Tabs w)(es:List Addr)(hE:ErrsC w es):Calls Tryz.prog 24 #[pw d 0] w fun e w'=>∃ A' c' zs,zs.map (fun x:ElA=>x.2.1)=(if isDoc xs=true then cellsAll xs else [])∧EOK (cellsAll xs) zs∧e=.returned (.tuple #[.slice A' zs.length c',errV es (if isDoc xs=true then 0 else 9)])∧zs.length≤c'∧kEl.R 51 w' w.heap.size (OkFrom w.heap.size) (.slice A' zs.length c') zs∧Below w.heap.size w w':=by
 refine RX.enterM Tryz.func24 rfl 26 rfl [(0,pw d 0)] rfl (by kernel_rfl) (fun R_ hR_=>?_)
 refine RX.X_mark0 rfl ?_
 refine sg (xe0 2 [(0,pw d 0),(1000000,encD [])] ?_)
 refine nl (sq (sg (xr0 1 [(10,pw d 0)] [] ?_)))
 refine xc 96 ent96 [pw d 0] (inserts_any d xs _ hd hb hn hz) ?_
 rintro e w7 ⟨A1,c2,zs3,ez4,rfl,l5,r6,b8⟩; refine⟨_,rfl,?_⟩
 refine xr0 5 [(5,.bool (isDoc xs))] [10,11] ?_
 refine nl (sg (xr0 1 [(14,.bool (isDoc xs))] [5] ?_))
 by_cases c9:isDoc xs=true
 ·rw[show (isDoc xs:Bool)=true from by simpa using c9]
  refine xr0 1 [(15,bF)] [14] ?_
  refine nl (cf (sk (sg (xw 1 [] [(6,pw w7.heap.size 0)] [15] (w7.alloc (.cells #[.slice none 0 0] 39)) [] trivial ?_))))
  obtain⟨w10,w14,b11,k12,z13⟩:=new_world w7 #[.slice none 0 0] 39
  rw[w14]
  refine nl (sq (sg (xe0 1 [(6,pw w7.heap.size 0),(17,pw d 0),(1000000,encD [])] ?_)))
  refine xc 97 ent97 [pw d 0] (ceach_any d xs _ (hd.below (bt b8 b11)) hb hn hz) ?_
  rintro e w23 ⟨g15,A16,c17,zs18,ez19,rfl,hge20,k21,r22,b24⟩; refine⟨_,rfl,?_⟩
  rw[if_pos c9]at ez19; rw[ez19]at k21 r22
  have hr9_:kOp.R 102 w23 w10.heap.size (fun k_=>w10.heap.size≤k_∧k_<w23.heap.size) (aL A16 xs c17) xs:=Kd.R_mono (Kd.R_bound r22) (fun k_ hk_=>⟨hk_.2.1,hk_.2.2.1⟩)
  have hgl_:=k21.lt
  refine nl (X_block ?_)
  have hw6_:w.heap.size≤w7.heap.size:=(b8).size
  have h6lo_:w7.heap.size<w10.heap.size:=Nat.lt_of_lt_of_le (Blk.lt k12) (Nat.le_refl _)
  have hlh_:w10.heap.size≤w23.heap.size:=(b24).size
  have hwl_:w.heap.size≤w10.heap.size:=((bt b8 b11)).size
  have hDt_:∀ k_,(DI w.heap.size w10.heap.size w23.heap.size) k_→k_<w23.heap.size:=fun k_ h_=>by rcases h_ with h_|h_<;>omega
  refine X_rangeM (α:=ElA) (ι:=Nat) rfl ent159 (encs:=elV) (ceach_seq (DI w.heap.size w10.heap.size w23.heap.size) (fun k_=>w10.heap.size≤k_∧k_<w23.heap.size) w10.heap.size g15 A16 c17 xs w w23 hr9_ (fun k_ h_=>.inr h_) (fun k_ h_=>.inl h_) hDt_ (bt (bt b8 b11) b24) (by omega) (hr c9) hz hT es hE k21 (by omega)) (Below.refl _ _) hDt_ (fun _=>rfl) (by kernel_rfl) (fun pre_ M_ W_=>RowI w w7.heap.size w23.heap.size pre_ M_ W_) (fun c_ pre_ W_=>False) (fun M_=>RowI.own ((bt (bt b8 b11) b24)).size M_) (fun _=>RX.ownFrom_pure _) (fun _ _ _ h_=>RowI.im h_ hw6_ h6lo_ hlh_) (fun k_=>k_=w7.heap.size∨(none:Option Addr).map (·.block)=some k_) ⟨none,0,(Blk.below k12 b24),Kd.R_nil _ _ _ _ _,rfl,(fun k_ h_=>by cases h_),(bt (bt b8 b11) b24)⟩ (fun x_ i_ W_=>RX.Blk W_ i_ 51 #[.int .i32 x_.2.1.rune,sT x_.2.1.kind,i6 x_.2.1.vk,i6 x_.2.1.vn,sT x_.2.1.vt,aL x_.2.2.1 x_.2.1.attrs x_.2.2.2]∧ElPx w23.heap.size x_ W_) (fun i_=>OwnFrom.and (ownFrom_blk (fun _=>i_) 51 (fun(x_:ElA)=>#[.int .i32 x_.2.1.rune,sT x_.2.1.kind,i6 x_.2.1.vk,i6 x_.2.1.vn,sT x_.2.1.vt,aL x_.2.2.1 x_.2.1.attrs x_.2.2.2])) ownFrom_px) (fun x_ i_=>[(6,pw w7.heap.size 0),(8,pw i_ 0)]) ?_ ?_ ?_ ?_
  ·rintro lp_ pre_ M_ x_ W_ hlp_ hws_ ⟨A6_,c6_,hk6_,hr6_,hM_,hA6_,hBw_⟩ hpx_ hlen_
   have hg6l_:=hk6_.lt
   refine XI_keep [6,17,18,19,20] [(6,pw w7.heap.size 0),(17,pw d 0),(18,.func (.func 159) #[] #[pw g15 0]),(19,i6 x_.1),(20,.agg #[.int .i32 x_.2.1.rune,sT x_.2.1.kind,i6 x_.2.1.vk,i6 x_.2.1.vn,sT x_.2.1.vt,aL x_.2.2.1 x_.2.1.attrs x_.2.2.2])] (by kernel_rfl) ?_
   refine XI_region (by kernel_rfl) (fun _ _ h_=>h_) ?_
   refine xwe 1 [] [(6,pw w7.heap.size 0),(8,pw W_.heap.size 0),(20,.agg #[.int .i32 x_.2.1.rune,sT x_.2.1.kind,i6 x_.2.1.vk,i6 x_.2.1.vn,sT x_.2.1.vt,aL x_.2.2.1 x_.2.1.attrs x_.2.2.2])] (W_.alloc (.cells #[.int .i32 0,s0,i6 0,i6 0,s0,.slice none 0 0] 51)) [] trivial ?_
   obtain⟨w25,w29,b26,k27,z28⟩:=new_world W_ #[.int .i32 0,s0,i6 0,i6 0,s0,.slice none 0 0] 51
   rw[w29]
   refine xst (.agg #[.int .i32 x_.2.1.rune,sT x_.2.1.kind,i6 x_.2.1.vk,i6 x_.2.1.vn,sT x_.2.1.vt,aL x_.2.2.1 x_.2.1.attrs x_.2.2.2]) k27 0 #[.int .i32 x_.2.1.rune,sT x_.2.1.kind,i6 x_.2.1.vk,i6 x_.2.1.vn,sT x_.2.1.vt,aL x_.2.2.1 x_.2.1.attrs x_.2.2.2] (fun w30 g31 k32 z33=>?_)
   have hne34:w7.heap.size≠W_.heap.size:=Blk.tne (Blk.below hk6_ b26) k27 rfl
   have k35:=Blk.other (Blk.below hk6_ b26) g31 hne34
   refine nl ?_
   have hDw_:∀ k_,(DI w.heap.size w10.heap.size w23.heap.size) k_→k_<W_.heap.size:=fun k_ h_=>by have:=hDt_ k_ h_; omega
   exact⟨W_.heap.size,by kernel_rfl,(KeepsFrom.trans (keeps_below b26) (keeps_store k27 g31)),KpM.below hDw_ ((bg b26 g31 (Nat.le_refl _)):Below W_.heap.size W_ w30),⟨A6_,c6_,k35,(Kd.R_below hr6_ (bg b26 g31 (Nat.le_refl _))),hM_,hA6_,(bg (bt hBw_ b26) g31 (hBw_).size)⟩,k32,ElPx.below ((bg b26 g31 (Nat.le_refl _)):Below W_.heap.size W_ w30) hpx_⟩
  ·rintro lp_ pre_ M_ x_ i_ W_ hlp_ hws_ ⟨A6_,c6_,hk6_,hr6_,hM_,hA6_,hBw_⟩ ⟨hk8_,hpx_⟩ hlen_
   have hg6l_:=hk6_.lt
   obtain⟨hx0_,hxl_,wb_,hwb_,hlk_,hra_⟩:=hpx_
   refine XI_block ?_
   refine XI_region (by kernel_rfl) (fun _ _ h_=>h_) ?_
   refine xwe 3 [(21,.load (aL A6_ pre_ c6_)),(22,.load (.agg #[.int .i32 x_.2.1.rune,sT x_.2.1.kind,i6 x_.2.1.vk,i6 x_.2.1.vn,sT x_.2.1.vt,aL x_.2.2.1 x_.2.1.attrs x_.2.2.2]))] [(6,pw w7.heap.size 0),(21,aL A6_ pre_ c6_),(23,.slice (some ⟨W_.heap.size,0,none⟩) 1 1)] (W_.alloc (.cells #[.int .i32 x_.2.1.rune,sT x_.2.1.kind,i6 x_.2.1.vk,i6 x_.2.1.vn,sT x_.2.1.vt,aL x_.2.2.1 x_.2.1.attrs x_.2.2.2] 51)) [_,la 51 (⟨i_,0,none⟩) (.agg #[.int .i32 x_.2.1.rune,sT x_.2.1.kind,i6 x_.2.1.vk,i6 x_.2.1.vn,sT x_.2.1.vt,aL x_.2.2.1 x_.2.1.attrs x_.2.2.2]) W_] ⟨lc 39 hk6_ 0,loadsB rfl rfl hk8_ 0 ⟨by kernel_rfl,by kernel_rfl⟩,trivial⟩ ?_
   obtain⟨w36,w40,b37,k38,z39⟩:=new_world W_ #[.int .i32 x_.2.1.rune,sT x_.2.1.kind,i6 x_.2.1.vk,i6 x_.2.1.vn,sT x_.2.1.vt,aL x_.2.2.1 x_.2.1.attrs x_.2.2.2] 51
   rw[w40]
   obtain⟨okp41,M42,hok43⟩:=Kd.M_rowApart hra_ (Nat.le_trans ((bt (bt b8 b11) b24)).size hwb_) hr6_ (by decide)
   rw[←w40]
   refine XL_append kEl rfl rfl rfl w.heap.size 51 (.agg #[.int .i32 0,s0,i6 0,i6 0,s0,.slice none 0 0]) 80 Tryz.underlying39 info51 rfl (by decide) (by omega) pre_ x_ [.int .i32 x_.2.1.rune,sT x_.2.1.kind,i6 x_.2.1.vk,i6 x_.2.1.vn,sT x_.2.1.vt,aL x_.2.2.1 x_.2.1.attrs x_.2.2.2] okp41 (by kernel_rfl) ⟨kCell_M (x:=x_.2.1) M42,rfl⟩ hok43 hr6_ (hBw_).size (by first|omega|(simp; omega)) ?_
   intro A44 c45 w46 r47 c48 g49 l50 a51
   have hne53:=RX.Kd.R_blk_ne hr6_ hk6_ rfl
   have k54:=Blk.ne hk6_ g49 hne53
   have e55:(pre_++[x_])=(pre_++[x_]):=rfl
   rw[e55]at r47 ⊢
   refine xst (aL A44 (pre_++[x_]) c45) k54 0 #[aL A44 (pre_++[x_]) c45] (fun w56 g57 k58 z59=>?_)
   have r61:=Kd.R_off r47 k54 (by decide) g57
   refine nl ?_
   have hDw_:∀ k_,(DI w.heap.size w10.heap.size w23.heap.size) k_→k_<W_.heap.size:=fun k_ h_=>by have:=hDt_ k_ h_; omega
   have hincl_:∀ k_,A44.map (·.block)=some k_→A6_.map (·.block)=some k_∨W_.heap.size≤k_:=fun k_ e_=>by rcases a51 with h_|⟨b_,h_,h2_⟩; (· rw[h_]at e_; exact .inl e_); (· rw[h_]at e_; injection e_ with e_; subst e_; exact .inr (Nat.le_trans (Nat.le_refl _) h2_))
   have B62:Below w.heap.size w w56:=(bg (bgo hBw_ g49 l50 (Nat.le_refl _)) g57 (b8).size)
   exact⟨(KeepsFrom.trans (keeps_row hr6_ g49) (keeps_store k54 g57)),fun k_=>k_=w7.heap.size∨A44.map (·.block)=some k_,(KpM.trans (KpM.grown g49 (fun k_ e_=>⟨by rw[hM_]; exact .inr e_,fun h_=>by have h1_:=hA6_ k_ e_; rcases h_ with h_|h_<;>omega⟩) (fun k_ h_=>Nat.lt_of_lt_of_le (hDw_ k_ h_) (Nat.le_refl _))) (KpM.grown g57 (fun k_ e_=>by injection e_ with e_; subst e_; exact⟨by rw[hM_]; exact .inl rfl,fun h_=>by rcases h_ with h_|h_<;>omega⟩) (fun k_ h_=>Nat.lt_of_lt_of_le (hDw_ k_ h_) g49.size))),(fun k_ h_=>by rcases h_ with h_|h_; (· exact .inl (by rw[hM_]; exact .inl h_)); (· exact(hincl_ k_ h_).imp (fun h1_=>by rw[hM_]; exact .inr h1_) id)),⟨A44,c45,k58,r61,rfl,(fun k_ h_=>by rcases hincl_ k_ h_ with h1_|h1_; (· exact hA6_ k_ h1_); (· omega)),B62⟩⟩
  ·rintro D64 pre_ M_ w63 D65 S66 ⟨A6_,c6_,hk6_,hr6_,hM_,hA6_,hBw_⟩ K67
   have hg6l_:=hk6_.lt
   have hall_:=EOK.all S66.1 S66.2
   have hok_:=S66.1
   have hlo_:w23.heap.size≤w23.heap.size:=Nat.le_refl _
   have hds_:Defs (D64::[]) w63:=Defs.cons K67 (fun _ h_=>by cases h_)
   have hdge_:∀ D_∈D64::[],w23.heap.size≤D_:=fun D_ hm_=>(List.mem_cons.1 hm_).elim (fun e_=>by omega) (fun h_=>by cases h_)
   refine sg (xe1 3 [(25,.load (aL A6_ pre_ c6_))] [(2,aL A6_ pre_ c6_),(3,.nilIface),(1000000,encD (D64::[]))] (lc 39 hk6_ 0) ?_)
   refine nl (X_ret (RX.retM_ok (P:=Tryz.prog) (fn:=Tryz.f24) (N:=26) (R:=R_) (ds:=(D64::[])) (dsOf_enc (by kernel_rfl)) (List.nodup_cons.2 ⟨fun h_=>(by cases h_),List.nodup_nil⟩) hds_ [.slice A6_ pre_.length c6_,.nilIface] (by kernel_rfl) (fun w_ ho_=>hR_ _ _ ?_)))
   have hrz_:=Off.row ho_ hds_ hr6_
   exact⟨A6_,c6_,pre_,by rw[if_pos c9]; exact hall_,hok_,by rw[if_pos c9]; rfl,(RX.Kd.R_len hrz_).2,hrz_,Off.below ho_ hBw_ (fun D_ hm_=>Nat.le_trans ((bt (bt b8 b11) b24)).size (hdge_ D_ hm_))⟩
  rintro D69 c_ pre_ w68 D70 S71 hix_ K72
  exact hix_.elim
 rw[show (isDoc xs:Bool)=false from by simpa using c9]
 refine xr0 1 [(15,bT)] [14] ?_
 refine nl (ct (sq (X_still (by kernel_rfl) (by kernel_rfl) (fun wd73 b74 h75=>?_))))
 refine xsC 3 [(16,.load (ev es 9))] [(2,.slice none 0 0),(3,ev es 9)] [0,15] [la 35 (⟨0,0,none⟩) (ev es 9) wd73] ⟨loads1 rfl (((bt b8 b74).cell (World.block_lt_of_cell? _ _ (hE.load 9 0 (by decide) (by decide) rfl))).trans (hE.load 9 0 (by decide) (by decide) rfl)),trivial⟩ ?_
 refine XS_nil ?_
 refine X_ret (RX.retM_ok (P:=Tryz.prog) (fn:=Tryz.f24) (N:=26) (R:=R_) (ds:=[]) (dsOf_enc (by kernel_rfl)) List.nodup_nil (Defs.below b74 (Defs.below b8 (fun _ h_=>by cases h_))) [.slice none 0 0,ev es 9] (by kernel_rfl) (fun w_ ho_=>hR_ _ _ ?_))
 have hnd_:=Bool.eq_false_iff.2 c9
 refine⟨none,0,[],by rw[hnd_]; rfl,EOK.nil _,by rw[hnd_]; rfl,Nat.le_refl _,Kd.R_nil _ _ _ _ _,Off.below ho_ (bt b8 b74) (fun D_ hm_=>by cases hm_)⟩
theorem clist_any (d:Nat)(xs:List OpA)(w:World)(hd:DeltaC w d xs)(hb:badE xs=0)(hn:xs.length≤1100000)(hz:∀ i,i<xs.length→opSz (xs.getD i op0))(hr:isDoc xs=true→∀ t,t<xs.length→refuseP (xs.getD t op0)=0)(hL:(cellsAll xs).length≤100000000)(hT:Tabs w)(es:List Addr)(hE:ErrsC w es):Calls Tryz.prog 24 #[pw d 0] w fun e w'=>∃ A' c' zs,zs=(if isDoc xs=true then cellsAll xs else [])∧e=.returned (.tuple #[.slice A' zs.length c',errV es (if isDoc xs=true then 0 else 9)])∧zs.length≤c'∧kCell.R 51 w' w.heap.size (OkFrom w.heap.size) (.slice A' zs.length c') zs∧Below w.heap.size w w':=by
 refine(clistE_any d xs w hd hb hn hz hr hL hT es hE).mono ?_
 rintro e w' ⟨A',c',zs,h1,_,rfl,h4,h5,h6⟩
 have hl:(zs.map fun x:ElA=>x.2.1).length=zs.length:=List.length_map ..
 exact⟨A',c',_,h1,by rw[hl],by rw[hl]; exact h4,by rw[hl]; exact kEl_R h5,h6⟩
theorem ent25 :Ent Tryz.prog 25:=ent_of Tryz.func25 (by kernel_rfl) rfl
abbrev ErrsCA (w:World)(es:List Addr):Prop:=ErrsOn [1,5,6,7,8,9,10,12] w es
theorem cat_any (d:Nat)(xs:List OpA)(i:Int)(w:World)(hd:DeltaC w d xs)(hb:badE xs=0)(hn:xs.length≤1100000)(hz:∀ i,i<xs.length→opSz (xs.getD i op0))(hr:isDoc xs=true→∀ t,t<xs.length→refuseP (xs.getD t op0)=0)(hL:(cellsAll xs).length≤100000000)(hT:Tabs w)(es:List Addr)(hE:ErrsCA w es):Calls Tryz.prog 25 #[pw d 0,i6 i] w fun e w'=>∃ A' c',e=.returned (.tuple #[.agg #[.int .i32 ((atP xs i).1.rune),sT ((atP xs i).1.kind),i6 ((atP xs i).1.vk),i6 ((atP xs i).1.vn),sT ((atP xs i).1.vt),.slice A' ((atP xs i).1.attrs.length) c'],errV es (atP xs i).2])∧(atP xs i).1.attrs.length≤c'∧kAttr.R 57 w' w.heap.size (OkFrom w.heap.size) (.slice A' (atP xs i).1.attrs.length c') (atP xs i).1.attrs∧Below w.heap.size w w':=by
 refine en Tryz.func25 rfl 31 [(0,pw d 0),(1,i6 i)] (fun R_ hR_=>?_)
 refine sg (xwe 1 [] [(0,pw d 0),(1,i6 i),(4,pw w.heap.size 0)] (w.alloc (.cells #[.int .i32 0,s0,i6 0,i6 0,s0,.slice none 0 0] 51)) [] trivial ?_)
 obtain⟨w1,w5,b2,k3,z4⟩:=new_world w #[.int .i32 0,s0,i6 0,i6 0,s0,.slice none 0 0] 51
 rw[w5]
 refine xr0 1 [] [] ?_
 refine nl (sg (xr0 1 [(9,pw d 0)] [0] ?_))
 refine xc 24 ent24 [pw d 0] (clist_any d xs _ (hd.below b2) hb hn hz hr hL (hT.below b2) es ((hE.sub (by decide):ErrsC w es).below b2)) ?_
 rintro e w12 ⟨A6,c7,zs8,ez9,rfl,l10,r11,b13⟩; refine⟨_,rfl,?_⟩
 refine xr0 5 [(6,aL A6 zs8 c7),(7,errV es (if isDoc xs=true then 0 else 9))] [9,10] ?_
 refine nl (sq (sg (xr0 1 [(13,errV es (if isDoc xs=true then 0 else 9))] [] ?_)))
 by_cases c14:(if isDoc xs=true then 0 else 9)=0
 ·rw[show errV es (if isDoc xs=true then 0 else 9)=.nilIface from by rw[c14]; rfl]
  refine xr0 1 [(7,.nilIface),(14,bF)] [13] ?_
  refine nl (cf (sk (sq (sg (xe0 1 [(1,i6 i),(4,pw w.heap.size 0),(6,aL A6 zs8 c7),(17,i6 i)] ?_)))))
  by_cases c15:i<0
  ·refine xr1 7 [(18,.eq bT)] [(24,bT)] [17] (dT c15) ?_
   refine nl (ct (sq (X_gen (S:=fun w_=>w_.cell? (⟨1,0,none⟩)=some (ev es 12)) [] 4 #[false,false,false,false] (by kernel_rfl) (by kernel_rfl) (by kernel_rfl) (fun wd16 b17 h18=>?_))))
   refine XG_runC (fuel':=2) (((bt (bt b2 b13) b17).cell (World.block_lt_of_cell? _ _ (hE.load 12 1 (by decide) (by decide) rfl))).trans (hE.load 12 1 (by decide) (by decide) rfl)) [0,1] [(26,.load (ev es 12))] [.agg #[.int .i32 0,s0,i6 0,i6 0,s0,.slice none 0 0],ev es 12] #[true,true,false,false] [(25,.agg #[.int .i32 0,s0,i6 0,i6 0,s0,.slice none 0 0]),(26,ev es 12)] [1,6,24] (fun w_=>[la 35 (⟨1,0,none⟩) (ev es 12) w_]) (fun w_ hC_=>⟨loads1 rfl hC_,trivial⟩) ?_
   refine XG_mid (fuel':=1) 2 #[true,true,true,false] _ rfl (by kernel_rfl) (by kernel_rfl) rfl ?_
   refine xst (.agg #[.int .i32 0,s0,i6 0,i6 0,s0,.slice none 0 0]) (Blk.below k3 (bt b13 b17)) 0 #[.int .i32 0,s0,i6 0,i6 0,s0,.slice none 0 0] (fun w19 g20 k21 z22=>?_)
   refine nl ?_
   have B24:Below w.heap.size w w19:=(bg (bt (bt b2 b13) b17) g20 (Nat.le_refl _))
   refine⟨((B24.cell (World.block_lt_of_cell? _ _ (hE.load 12 1 (by decide) (by decide) rfl))).trans (hE.load 12 1 (by decide) (by decide) rfl)),?_⟩
   refine XG_runC (fuel':=0) ((B24.cell (World.block_lt_of_cell? _ _ (hE.load 12 1 (by decide) (by decide) rfl))).trans (hE.load 12 1 (by decide) (by decide) rfl)) [3] [] [ev es 12] #[true,true,true,true] [(5,ev es 12)] [25,26] (fun w_=>[]) (fun w_ hC_=>trivial) ?_
   refine XG_done (by kernel_rfl) ?_
   refine X_ret (RX.ret_cellT (P:=Tryz.prog) (fn:=Tryz.f25) (N:=31) (R:=R_) (c:=4) (t:=51) (p:=⟨w.heap.size,0,none⟩) (v:=.agg #[.int .i32 0,s0,i6 0,i6 0,s0,.slice none 0 0]) (b:=5) (u:=ev es 12) rfl rfl (lB k21 0) rfl (hR_ _ _ ?_))
   have hnd_:isDoc xs=true:=Decidable.byContradiction fun h_=>by have h1_:=c14; rw[if_neg h_]at h1_; cases h1_
   rw[if_pos hnd_]at ez9
   have hlz_:=congrArg List.length ez9
   have ha_:atP xs i=(cell0,12):=by unfold atP; rw[if_pos hnd_,if_pos (by omega)]
   rw[ha_]
   exact⟨none,0,rfl,Nat.le_refl _,Kd.R_nil _ _ _ _ _,B24⟩
  refine xr1 5 [(18,.eq bF)] [(19,bF),(20,i6 i),(22,i6 (zs8.length:Int))] [17] (dF c15) ?_
  by_cases c25:i≥(zs8.length:Int)
  ·refine xr1 2 [(23,.eq bT)] [(24,bT)] [19,20,22] (dT c25) ?_
   refine nl (ct (sq (X_gen (S:=fun w_=>w_.cell? (⟨1,0,none⟩)=some (ev es 12)) [] 4 #[false,false,false,false] (by kernel_rfl) (by kernel_rfl) (by kernel_rfl) (fun wd26 b27 h28=>?_))))
   refine XG_runC (fuel':=2) (((bt (bt b2 b13) b27).cell (World.block_lt_of_cell? _ _ (hE.load 12 1 (by decide) (by decide) rfl))).trans (hE.load 12 1 (by decide) (by decide) rfl)) [0,1] [(26,.load (ev es 12))] [.agg #[.int .i32 0,s0,i6 0,i6 0,s0,.slice none 0 0],ev es 12] #[true,true,false,false] [(25,.agg #[.int .i32 0,s0,i6 0,i6 0,s0,.slice none 0 0]),(26,ev es 12)] [1,6,24] (fun w_=>[la 35 (⟨1,0,none⟩) (ev es 12) w_]) (fun w_ hC_=>⟨loads1 rfl hC_,trivial⟩) ?_
   refine XG_mid (fuel':=1) 2 #[true,true,true,false] _ rfl (by kernel_rfl) (by kernel_rfl) rfl ?_
   refine xst (.agg #[.int .i32 0,s0,i6 0,i6 0,s0,.slice none 0 0]) (Blk.below k3 (bt b13 b27)) 0 #[.int .i32 0,s0,i6 0,i6 0,s0,.slice none 0 0] (fun w29 g30 k31 z32=>?_)
   refine nl ?_
   have B34:Below w.heap.size w w29:=(bg (bt (bt b2 b13) b27) g30 (Nat.le_refl _))
   refine⟨((B34.cell (World.block_lt_of_cell? _ _ (hE.load 12 1 (by decide) (by decide) rfl))).trans (hE.load 12 1 (by decide) (by decide) rfl)),?_⟩
   refine XG_runC (fuel':=0) ((B34.cell (World.block_lt_of_cell? _ _ (hE.load 12 1 (by decide) (by decide) rfl))).trans (hE.load 12 1 (by decide) (by decide) rfl)) [3] [] [ev es 12] #[true,true,true,true] [(5,ev es 12)] [25,26] (fun w_=>[]) (fun w_ hC_=>trivial) ?_
   refine XG_done (by kernel_rfl) ?_
   refine X_ret (RX.ret_cellT (P:=Tryz.prog) (fn:=Tryz.f25) (N:=31) (R:=R_) (c:=4) (t:=51) (p:=⟨w.heap.size,0,none⟩) (v:=.agg #[.int .i32 0,s0,i6 0,i6 0,s0,.slice none 0 0]) (b:=5) (u:=ev es 12) rfl rfl (lB k31 0) rfl (hR_ _ _ ?_))
   have hnd_:isDoc xs=true:=Decidable.byContradiction fun h_=>by have h1_:=c14; rw[if_neg h_]at h1_; cases h1_
   rw[if_pos hnd_]at ez9
   have hlz_:=congrArg List.length ez9
   have ha_:atP xs i=(cell0,12):=by unfold atP; rw[if_pos hnd_,if_pos (by omega)]
   rw[ha_]
   exact⟨none,0,rfl,Nat.le_refl _,Kd.R_nil _ _ _ _ _,B34⟩
  refine xr1 2 [(23,.eq bF)] [(24,bF)] [19,20,22] (dF c25) ?_
  refine nl (cf (sk (sg (xr0 2 [(27,aL A6 zs8 c7),(28,i6 i)] [1,6,24] ?_))))
  obtain⟨ad35,cs38,a36,M39,c37⟩:=Kd.R_at cell0 r11 (i:=i) (by omega) (by omega)
  obtain⟨B40,c41,rfl,l42,R43⟩:=kCell_M_slice M39
  replace c37:CellsAt w12 (ad35.add (i.toNat*6)) (c6L (zs8.getD i.toNat cell0) (aL B40 (zs8.getD i.toNat cell0).attrs c41)):=c37
  replace R43:=Kd.R_mono R43 (fun _ h_=>h_.1)
  replace l42:(zs8.getD i.toNat cell0).attrs.length≤c41:=l42
  replace R43:kAttr.R 57 w12 w1.heap.size (OkFrom w1.heap.size) (aL B40 (zs8.getD i.toNat cell0).attrs c41) (zs8.getD i.toNat cell0).attrs:=R43
  refine xr 2 [(29,.idx ad35),(30,.load (.agg (c6A (zs8.getD i.toNat cell0) (aL B40 (zs8.getD i.toNat cell0).attrs c41))))] [(30,.agg (c6A (zs8.getD i.toNat cell0) (aL B40 (zs8.getD i.toNat cell0).attrs c41)))] [27,28] [A6=some ad35,(0:Int)≤i,i<(zs8.length:Int),la 51 (ad35.add (i.toNat*6)) (.agg (c6A (zs8.getD i.toNat cell0) (aL B40 (zs8.getD i.toNat cell0).attrs c41))) w12] ⟨a36,(by omega),(by omega),loadsE rfl rfl c37 0 ⟨by kernel_rfl,by kernel_rfl⟩,trivial⟩ ?_
  refine xst (.agg (c6A (zs8.getD i.toNat cell0) (aL B40 (zs8.getD i.toNat cell0).attrs c41))) (Blk.below k3 b13) 0 (c6A (zs8.getD i.toNat cell0) (aL B40 (zs8.getD i.toNat cell0).attrs c41)) (fun w44 g45 k46 z47=>?_)
  have r48:=Kd.R_off R43 (Blk.below k3 b13) (by decide) g45
  refine xr0 1 [(5,.nilIface)] [30] ?_
  refine nl (X_ret (RX.ret_cellT (P:=Tryz.prog) (fn:=Tryz.f25) (N:=31) (R:=R_) (c:=4) (t:=51) (p:=⟨w.heap.size,0,none⟩) (v:=.agg (c6A (zs8.getD i.toNat cell0) (aL B40 (zs8.getD i.toNat cell0).attrs c41))) (b:=5) (u:=.nilIface) rfl rfl (lB k46 0) rfl (hR_ _ _ ?_)))
  have B50:Below w.heap.size w w44:=(bg (bt b2 b13) g45 (Nat.le_refl _))
  have hnd_:isDoc xs=true:=Decidable.byContradiction fun h_=>by have h1_:=c14; rw[if_neg h_]at h1_; cases h1_
  rw[if_pos hnd_]at ez9
  have hlz_:=congrArg List.length ez9
  have ha_:atP xs i=(zs8.getD i.toNat cell0,0):=by unfold atP; rw[if_pos hnd_,if_neg (by omega),ez9]
  rw[ha_]
  exact⟨_,_,rfl,(RX.Kd.R_len r48).2,Kd.R_low r48 (b2).size,B50⟩
 rw[errV_pos es (if isDoc xs=true then 0 else 9) (Nat.pos_of_ne_zero c14)]
 refine xr0 1 [(7,.iface 301 (.pointer (some (errAt es (if isDoc xs=true then 0 else 9))))),(14,bT)] [13] ?_
 refine nl (ct (sg (xe0 2 [(4,pw w.heap.size 0),(15,.agg #[.int .i32 0,s0,i6 0,i6 0,s0,.slice none 0 0]),(16,.iface 301 (.pointer (some (errAt es (if isDoc xs=true then 0 else 9)))))] ?_)))
 refine xst (.agg #[.int .i32 0,s0,i6 0,i6 0,s0,.slice none 0 0]) (Blk.below k3 b13) 0 #[.int .i32 0,s0,i6 0,i6 0,s0,.slice none 0 0] (fun w51 g52 k53 z54=>?_)
 refine xr0 1 [(5,.iface 301 (.pointer (some (errAt es (if isDoc xs=true then 0 else 9)))))] [15,16] ?_
 refine nl (X_ret (RX.ret_cellT (P:=Tryz.prog) (fn:=Tryz.f25) (N:=31) (R:=R_) (c:=4) (t:=51) (p:=⟨w.heap.size,0,none⟩) (v:=.agg #[.int .i32 0,s0,i6 0,i6 0,s0,.slice none 0 0]) (b:=5) (u:=.iface 301 (.pointer (some (errAt es (if isDoc xs=true then 0 else 9))))) rfl rfl (lB k53 0) rfl (hR_ _ _ ?_)))
 have B56:Below w.heap.size w w51:=(bg (bt b2 b13) g52 (Nat.le_refl _))
 have hnd_:¬isDoc xs=true:=fun h_=>c14 (by rw[if_pos h_])
 have ha_:atP xs i=(cell0,9):=if_neg hnd_
 rw[ha_,if_neg hnd_]
 exact⟨none,0,rfl,Nat.le_refl _,Kd.R_nil _ _ _ _ _,B56⟩
end Go.Proofs.YtgphmfnkeolbcaaGreatDoor

set_option linter.unusedVariables false
set_option linter.unusedSimpArgs false
namespace Go.Proofs.YtgphmfnkeolbcaaGreatDoor.RX
open Go Go.RowKit Go.Proofs.YtgphmfnkeolbcaaGreatDoorW.PrintLast
theorem cell_run2 {P:Program}{fn:Func}{N:Nat}{l:Slots}{w:World}{c c2:Tmp}{t t2:TypeId}{p p2:Addr}{v v2:Value}(hr:fn.results=#[.cell c t,.cell c2 t2])(hl:look l c=some (.pointer (some p)))(hl2:look l c2=some (.pointer (some p2)))(h:(loadVar t p).run P w=.ok v w)(h2:(loadVar t2 p2).run P w=.ok v2 w)(a:Act)(ha:Fr N l a):(results fn a.tmps).run P w=.ok (.tuple #[v,v2]) w:=by
  have h3:a.tmps.getD c undef=.pointer (some p):=by
    have:=ha.at_ c _ hl
    simp[Array.getD_eq_getD_getElem?,this]
  have h4:a.tmps.getD c2 undef=.pointer (some p2):=by
    have:=ha.at_ c2 _ hl2
    simp[Array.getD_eq_getD_getElem?,this]
  unfold results
  rw[hr,Array.mapM_eq_mapM_toList]
  simp only[Sem.run_bind,Sem.run_map,Sem.run_pure,List.mapM_cons,List.mapM_nil,h3,h4,asAddr,Result.andThen_ok,h,h2]
  simp
theorem retM_cell2 {P:Program}{fn:Func}{N:Nat}{R:Ending→World→Prop}{l:Slots}{w:World}{ds:List Nat}(hl:dsOf l=ds.map mkD)(hn:ds.Nodup)(hD:∀ D∈ds,w.heap[D]?=some (.deferred (some []))){c c2:Tmp}{t t2:TypeId}{g g2:Nat}{bt bt2:TypeId}{cs cs2:Array Value}{p p2:Addr}{v v2:Value}(hr:fn.results=#[.cell c t,.cell c2 t2])(hc:look l c=some (.pointer (some p)))(hc2:look l c2=some (.pointer (some p2)))
    (hb:RX.Blk w g bt cs) (hb2:RX.Blk w g2 bt2 cs2) (hv:∀ w',RX.Blk w' g bt cs→(loadVar t p).run P w'=.ok v w') (hv2:∀ w',RX.Blk w' g2 bt2 cs2→(loadVar t2 p2).run P w'=.ok v2 w') (hR:∀ w',Off ds w w'→R (.returned (.tuple #[v,v2])) w'):retM P fn N R .ret l w:=by
  intro a ha
  rw[ha.defers,hl]
  refine leavesM ds w hn hD fun w' ho=>⟨?_,hR w' ho⟩
  exact cell_run2 hr hc hc2 (hv w' (ho.blk hD hb)) (hv2 w' (ho.blk hD hb2)) a ha
end Go.Proofs.YtgphmfnkeolbcaaGreatDoor.RX
