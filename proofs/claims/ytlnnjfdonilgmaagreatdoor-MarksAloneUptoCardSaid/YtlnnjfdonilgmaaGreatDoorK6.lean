import Derived.Test.YtlnnjfdonilgmaaGreatDoorK5
import Derived.Test.YtlnnjfdonilgmaaGreatDoorK2
/- vellumlaw23: all, same, tells. Conditions: sizes. -/
set_option linter.unusedVariables false
set_option linter.unusedSimpArgs false
set_option maxRecDepth 100000
namespace Go.Proofs.YtlnnjfdonilgmaaGreatDoor
open Go Go.RowKit Go.Proofs.YtlnnjfdonilgmaaGreatDoorW.PrintWords RX
theorem ent22 :Ent Tryz.prog 22:=ent_of Tryz.func22 (by kernel_rfl) rfl
theorem ent23 :Ent Tryz.prog 23:=ent_of Tryz.func23 (by kernel_rfl) rfl
theorem RowK_im2 {w:World}{g6 lo hi:Nat}{pre:List MarkA}{M:Nat→Prop}{W:World}(h:RowK w g6 hi pre M W)(h1:w.heap.size≤g6)(h2:hi≤g6)(h3:lo≤hi)(h4:w.heap.size≤lo):∀ k,M k→¬DI w.heap.size lo hi k∧k<W.heap.size:=by
 obtain⟨A6,c6,e2,e3,rfl,e5,e6⟩:=h
 rintro k (rfl|hk)
 ·exact⟨fun h=>by rcases h with h|h<;>omega,e2.lt⟩
 have:=e5 k hk
 have hl:=Kd.R_lt e3 k hk
 exact⟨fun h=>by rcases h with h|h<;>omega,hl⟩
set_option maxHeartbeats 1000000 in
theorem all23_any (gm B:Nat)(ms:List MarkA)(w:World)(hk:RX.Blk w gm 73 #[.map (some B)])(hM:MapL Tryz.prog 9 markR w B (mL ms))(hn:ms.length≤64)(hks:∀ x∈ms,x.1.size≤9223372036854775807):Calls Tryz.prog 22 #[pw gm 0] w fun e w'=>∃ A' c',e=.returned (.tuple #[.slice A' ms.length c',bT])∧ms.length≤c'∧kMark.R 31 w' w.heap.size (OkFrom w.heap.size) (.slice A' ms.length c') ms∧Below w.heap.size w w':=by
 refine RX.enterM Tryz.func22 rfl 21 rfl [(0,pw gm 0)] rfl (by kernel_rfl) (fun R_ hR_=>?_)
 refine RX.X_mark0 rfl ?_
 refine sg (xwe 1 [] [(0,pw gm 0),(2,pw w.heap.size 0),(1000000,encD [])] (w.alloc (.cells #[.slice none 0 0] 27)) [] trivial ?_)
 obtain⟨w1,w5,b2,k3,z4⟩:=new_world w #[.slice none 0 0] 27
 rw[w5]
 refine xw 1 [] [(3,pw w1.heap.size 0)] [] (w1.alloc (.cells #[bF] 4)) [] trivial ?_
 obtain⟨w_6,w10,b7,k8,z9⟩:=new_world w1 #[bF] 4
 rw[w10]
 refine nl (sg (xr0 1 [(7,pw gm 0)] [0] ?_))
 refine xc 24 ent24 [pw gm 0] (mall_any gm B ms _ (Blk.below hk (bt b2 b7)) (MapL.below hM (bt b2 b7)) (by omega) hks) ?_
 rintro e w17 ⟨g11,A12,c13,rfl,hge14,k15,r16,b18⟩; refine⟨_,rfl,?_⟩
 have hr9_:kMark.R 31 w17 w_6.heap.size (fun k_=>w_6.heap.size≤k_∧k_<w17.heap.size) (aL A12 ms c13) ms:=Kd.R_mono (Kd.R_bound r16) (fun k_ hk_=>⟨hk_.2.1,hk_.2.2.1⟩)
 have hgl_:=k15.lt
 refine xr0 1 [(4,.func (.func 55) #[] #[pw g11 0])] [7,8] ?_
 refine nl (sq (sg (xr0 2 [(10,bF)] [] ?_)))
 refine nl (cf (sk (sg (xw 1 [] [(5,pw w17.heap.size 0)] [10] (w17.alloc (.cells #[.slice none 0 0] 27)) [] trivial ?_))))
 obtain⟨w19,w23,b20,k21,z22⟩:=new_world w17 #[.slice none 0 0] 27
 rw[w23]
 refine nl (sq (sg (xe0 1 [(2,pw w.heap.size 0),(3,pw w1.heap.size 0),(5,pw w17.heap.size 0),(11,.func (.func 55) #[] #[pw g11 0]),(1000000,encD [])] ?_)))
 refine nl (X_block ?_)
 have hw5_:w.heap.size≤w17.heap.size:=((bt (bt b2 b7) b18)).size
 have h5hi_:w17.heap.size≤w17.heap.size:=(Nat.le_refl _)
 have hlh_:w_6.heap.size≤w17.heap.size:=(b18).size
 have hwl_:w.heap.size≤w_6.heap.size:=((bt b2 b7)).size
 have hhiW_:w17.heap.size≤w19.heap.size:=(b20).size
 have hDt_:∀ k_,(DI w.heap.size w_6.heap.size w17.heap.size) k_→k_<w19.heap.size:=fun k_ h_=>by rcases h_ with h_|h_<;>omega
 have hr90_:=(Kd.R_below hr9_ b20)
 have hq2_:w.heap.size≤w.heap.size∧w.heap.size<w_6.heap.size:=⟨(Nat.le_refl _),Nat.lt_of_lt_of_le (Blk.lt k3) (b7).size⟩
 have hq3_:w.heap.size≤w1.heap.size∧w1.heap.size<w_6.heap.size:=⟨(b2).size,Nat.lt_of_lt_of_le (Blk.lt k8) (Nat.le_refl _)⟩
 refine X_rangeM (α:=MarkA) (ι:=Nat) rfl ent55 (encs:=(fun x_:MarkA=>#[mV x_])) (vals_seq (DI w.heap.size w_6.heap.size w17.heap.size) (fun k_=>w_6.heap.size≤k_∧k_<w17.heap.size) w_6.heap.size g11 A12 c13 ms w19 hr90_ (fun k_ h_=>.inr h_) hDt_ (by omega) (Blk.below k15 b20)) (Below.refl _ _) hDt_ (fun _=>rfl) (by kernel_rfl) (fun pre_ M_ W_=>RowK w w17.heap.size w17.heap.size pre_ M_ W_∧RX.Blk W_ w.heap.size 27 #[.slice none 0 0]∧RX.Blk W_ w1.heap.size 4 #[bF]) (fun c_ pre_ W_=>False) (fun M_=>OwnFrom.and (RowK.own ((bt (bt (bt b2 b7) b18) b20)).size M_) (OwnFrom.and (ownFrom_blk (fun _=>_) _ (fun _=>_)) (ownFrom_blk (fun _=>_) _ (fun _=>_)))) (fun _=>RX.ownFrom_pure _) (fun _ _ _ h_=>RowK_im2 h_.1 hw5_ h5hi_ hlh_ hwl_) (fun k_=>k_=w17.heap.size∨(none:Option Addr).map (·.block)=some k_) ⟨⟨none,0,k21,Kd.R_nil _ _ _ _ _,rfl,(fun k_ h_=>by cases h_),(bt (bt (bt b2 b7) b18) b20)⟩,(Blk.below k3 (bt (bt b7 b18) b20)),(Blk.below k8 (bt b18 b20))⟩ (fun x_ i_ W_=>RX.Blk W_ i_ 31 #[sT x_.1,i6 x_.2.1,i6 x_.2.2]) (fun i_=>ownFrom_blk (fun _=>i_) 31 (fun(x_:MarkA)=>#[sT x_.1,i6 x_.2.1,i6 x_.2.2])) (fun x_ i_=>[(2,pw w.heap.size 0),(3,pw w1.heap.size 0),(5,pw w17.heap.size 0),(6,pw i_ 0)]) ?_ ?_ ?_ ?_
 ·rintro lp_ pre_ M_ x_ W_ hlp_ hws_ ⟨⟨A6_,c6_,hk6_,hr6_,hM_,hA6_,hBw_⟩,hb2_,hb3_⟩ hpx_ hlen_
  have hg6l_:=hk6_.lt
  refine XI_keep [2,3,5,11,12] [(2,pw w.heap.size 0),(3,pw w1.heap.size 0),(5,pw w17.heap.size 0),(11,.func (.func 55) #[] #[pw g11 0]),(12,.agg #[sT x_.1,i6 x_.2.1,i6 x_.2.2])] (by kernel_rfl) ?_
  refine XI_region (by kernel_rfl) (fun _ _ h_=>h_) ?_
  refine xwe 1 [] [(2,pw w.heap.size 0),(3,pw w1.heap.size 0),(5,pw w17.heap.size 0),(6,pw W_.heap.size 0),(12,.agg #[sT x_.1,i6 x_.2.1,i6 x_.2.2])] (W_.alloc (.cells #[s0,i6 0,i6 0] 31)) [] trivial ?_
  obtain⟨w24,w28,b25,k26,z27⟩:=new_world W_ #[s0,i6 0,i6 0] 31
  rw[w28]
  refine xst (.agg #[sT x_.1,i6 x_.2.1,i6 x_.2.2]) k26 0 #[sT x_.1,i6 x_.2.1,i6 x_.2.2] (fun w29 g30 k31 z32=>?_)
  have hne33:w17.heap.size≠W_.heap.size:=Blk.tne (Blk.below hk6_ b25) k26 rfl
  have k34:=Blk.other (Blk.below hk6_ b25) g30 hne33
  have hne35:w.heap.size≠W_.heap.size:=Blk.tne (Blk.below hb2_ b25) k26 rfl
  have k36:=Blk.other (Blk.below hb2_ b25) g30 hne35
  have hne37:w1.heap.size≠W_.heap.size:=Blk.tne (Blk.below hb3_ b25) k26 rfl
  have k38:=Blk.other (Blk.below hb3_ b25) g30 hne37
  refine nl ?_
  have hDw_:∀ k_,(DI w.heap.size w_6.heap.size w17.heap.size) k_→k_<W_.heap.size:=fun k_ h_=>by have:=hDt_ k_ h_; omega
  exact⟨W_.heap.size,by kernel_rfl,(KeepsFrom.trans (keeps_below b25) (keeps_store k26 g30)),KpM.below hDw_ ((bg b25 g30 (Nat.le_refl _)):Below W_.heap.size W_ w29),⟨⟨A6_,c6_,k34,(Kd.R_below hr6_ (bg b25 g30 (Nat.le_refl _))),hM_,hA6_,(bg (bt hBw_ b25) g30 (hBw_).size)⟩,k36,k38⟩,k31⟩
 ·rintro lp_ pre_ M_ x_ i_ W_ hlp_ hws_ ⟨⟨A6_,c6_,hk6_,hr6_,hM_,hA6_,hBw_⟩,hb2_,hb3_⟩ hk8_ hlen_
  have hg6l_:=hk6_.lt
  have hsl_:(pre_++[x_]).length=pre_.length+1:=by simp
  refine XI_block ?_
  refine XI_seq ?_
  refine XI_region (by kernel_rfl) (fun _ _ h_=>h_) ?_
  refine xwe 3 [(13,.load (aL A6_ pre_ c6_)),(14,.load (.agg #[sT x_.1,i6 x_.2.1,i6 x_.2.2]))] [(2,pw w.heap.size 0),(3,pw w1.heap.size 0),(5,pw w17.heap.size 0),(13,aL A6_ pre_ c6_),(15,.slice (some ⟨W_.heap.size,0,none⟩) 1 1)] (W_.alloc (.cells #[sT x_.1,i6 x_.2.1,i6 x_.2.2] 31)) [_,la 31 (⟨i_,0,none⟩) (.agg #[sT x_.1,i6 x_.2.1,i6 x_.2.2]) W_] ⟨lc 27 hk6_ 0,loadsB rfl rfl hk8_ 0 ⟨by kernel_rfl,by kernel_rfl⟩,trivial⟩ ?_
  obtain⟨w39,w43,b40,k41,z42⟩:=new_world W_ #[sT x_.1,i6 x_.2.1,i6 x_.2.2] 31
  rw[w43]
  rw[←w43]
  refine XL_append kMark rfl rfl rfl w.heap.size 31 (.agg #[s0,i6 0,i6 0]) 32 Tryz.underlying27 info31 rfl (by decide) (by omega) pre_ x_ [sT x_.1,i6 x_.2.1,i6 x_.2.2] (fun _=>False) (by kernel_rfl) (kMark_M _ _ _ _) (fun _ h=>h.elim) hr6_ (hBw_).size (by first|omega|(simp; omega)) ?_
  intro A44 c45 w46 r47 c48 g49 l50 a51
  have hne52:=RX.Kd.R_blk_ne hr6_ hk6_ rfl
  have k53:=Blk.ne hk6_ g49 hne52
  have hne54:=RX.Kd.R_blk_ne hr6_ hb2_ rfl
  have k55:=Blk.ne hb2_ g49 hne54
  have hne56:=RX.Kd.R_blk_ne hr6_ hb3_ rfl
  have k57:=Blk.ne hb3_ g49 hne56
  have e58:(pre_++[x_])=(pre_++[x_]):=rfl
  rw[e58]at r47 ⊢
  refine xst (aL A44 (pre_++[x_]) c45) k53 0 #[aL A44 (pre_++[x_]) c45] (fun w59 g60 k61 z62=>?_)
  have hne63:w.heap.size≠w17.heap.size:=Nat.ne_of_lt (Nat.lt_of_lt_of_le (Blk.lt k3) ((bt b7 b18)).size)
  have k64:=Blk.other k55 g60 hne63
  have hne65:w1.heap.size≠w17.heap.size:=Nat.ne_of_lt (Nat.lt_of_lt_of_le (Blk.lt k8) (b18).size)
  have k66:=Blk.other k57 g60 hne65
  have r67:=Kd.R_off r47 k53 (by decide) g60
  refine nl (XI_seq ?_)
  refine XI_region (by kernel_rfl) (fun _ _ h_=>h_) ?_
  refine xr1 2 [(17,.load (aL A44 (pre_++[x_]) c45))] [(18,i6 ((pre_++[x_]).length:Int))] [13,15,16] (lc 27 k61 0) ?_
  by_cases c68:((pre_++[x_]).length:Int)>64
  ·exfalso; omega
  refine xr1 1 [(19,.eq bF)] [(19,bF)] [18] (dF c68) ?_
  refine nl (XI_cond false rfl ?_)
  refine XI_skip ?_
  have hDw_:∀ k_,(DI w.heap.size w_6.heap.size w17.heap.size) k_→k_<W_.heap.size:=fun k_ h_=>by have:=hDt_ k_ h_; omega
  have hincl_:∀ k_,A44.map (·.block)=some k_→A6_.map (·.block)=some k_∨W_.heap.size≤k_:=fun k_ e_=>by rcases a51 with h_|⟨b_,h_,h2_⟩; (· rw[h_]at e_; exact .inl e_); (· rw[h_]at e_; injection e_ with e_; subst e_; exact .inr (Nat.le_trans (Nat.le_refl _) h2_))
  have B69:Below w.heap.size w w59:=(bg (bgo hBw_ g49 l50 (Nat.le_refl _)) g60 ((bt (bt b2 b7) b18)).size)
  exact⟨(KeepsFrom.trans (keeps_row hr6_ g49) (keeps_store k53 g60)),fun k_=>k_=w17.heap.size∨A44.map (·.block)=some k_,(KpM.trans (KpM.grown g49 (fun k_ e_=>⟨by rw[hM_]; exact .inr e_,fun h_=>by have h1_:=hA6_ k_ e_; rcases h_ with h_|h_<;>omega⟩) (fun k_ h_=>Nat.lt_of_lt_of_le (hDw_ k_ h_) (Nat.le_refl _))) (KpM.grown g60 (fun k_ e_=>by injection e_ with e_; subst e_; exact⟨by rw[hM_]; exact .inl rfl,fun h_=>by rcases h_ with h_|h_<;>omega⟩) (fun k_ h_=>Nat.lt_of_lt_of_le (hDw_ k_ h_) g49.size))),(fun k_ h_=>by rcases h_ with h_|h_; (· exact .inl (by rw[hM_]; exact .inl h_)); (· exact(hincl_ k_ h_).imp (fun h1_=>by rw[hM_]; exact .inr h1_) id)),⟨⟨A44,c45,k61,r67,rfl,(fun k_ h_=>by rcases hincl_ k_ h_ with h1_|h1_; (· exact hA6_ k_ h1_); (· omega)),B69⟩,k64,k66⟩⟩
 ·rintro D71 pre_ M_ w70 D72 S73 ⟨⟨A6_,c6_,hk6_,hr6_,hM_,hA6_,hBw_⟩,hb2_,hb3_⟩ K74
  have hg6l_:=hk6_.lt
  rw[show pre_=ms from S73]at hk6_ hr6_
  have hlo_:w19.heap.size≤w19.heap.size:=Nat.le_refl _
  have hds_:Defs (D71::[]) w70:=Defs.cons K74 (fun _ h_=>by cases h_)
  have hdge_:∀ D_∈D71::[],w19.heap.size≤D_:=fun D_ hm_=>(List.mem_cons.1 hm_).elim (fun e_=>by omega) (fun h_=>by cases h_)
  refine sg (xe1 1 [(20,.load (aL A6_ ms c6_))] [(2,pw w.heap.size 0),(3,pw w1.heap.size 0),(20,aL A6_ ms c6_),(1000000,encD (D71::[]))] (lc 27 hk6_ 0) ?_)
  refine xst (aL A6_ ms c6_) hb2_ 0 #[aL A6_ ms c6_] (fun w75 g76 k77 z78=>?_)
  have hne81:w1.heap.size≠w.heap.size:=Nat.ne_of_gt (Nat.lt_of_lt_of_le (Blk.lt k3) (Nat.le_refl _))
  have k82:=Blk.other hb3_ g76 hne81
  have r83:=Kd.R_off hr6_ hb2_ (by decide) g76
  refine xst bT k82 0 #[bT] (fun w84 g85 k86 z87=>?_)
  have hne90:w.heap.size≠w1.heap.size:=Nat.ne_of_lt (Nat.lt_of_lt_of_le (Blk.lt k3) (Nat.le_refl _))
  have k91:=Blk.other k77 g85 hne90
  have r92:=Kd.R_off r83 k82 (by decide) g85
  refine nl (X_ret (RX.retM_cell2 (P:=Tryz.prog) (fn:=Tryz.f22) (N:=21) (R:=R_) (c:=2) (c2:=3) (t:=27) (t2:=4) (p:=⟨w.heap.size,0,none⟩) (p2:=⟨w1.heap.size,0,none⟩) (v:=aL A6_ ms c6_) (v2:=bT) (ds:=(D71::[])) (dsOf_enc (by kernel_rfl)) (List.nodup_cons.2 ⟨fun h_=>(by cases h_),List.nodup_nil⟩) (Defs.store k82 g85 (Defs.store hb2_ g76 hds_)) rfl rfl rfl k91 k86 (fun w_ hb_=>loads1 rfl (Blk.cell hb_ 0 _ rfl)) (fun w_ hb_=>loads1 rfl (Blk.cell hb_ 0 _ rfl)) (fun w_ ho_=>hR_ _ _ ?_)))
  have B93:Below w.heap.size w w84:=(bg (bg hBw_ g76 (Nat.le_refl _)) g85 (b2).size)
  have hrz_:=Off.row ho_ (Defs.store k82 g85 (Defs.store hb2_ g76 hds_)) r92
  exact⟨A6_,c6_,rfl,(RX.Kd.R_len hrz_).2,hrz_,Off.below ho_ B93 (fun D_ hm_=>Nat.le_trans ((bt (bt (bt b2 b7) b18) b20)).size (hdge_ D_ hm_))⟩
 rintro D95 c_ pre_ w94 D96 S97 hix_ K98
 exact hix_.elim
theorem mark_eql (x y:MarkA)(w:World):(Op.equalIn 10000 31 (mV x) (mV y)).run Tryz.prog w=.ok ((x.1.toList==y.1.toList)&&((x.2.1==y.2.1)&&(x.2.2==y.2.2))) w:=by
 refine eqA_of (d:=9999) Tryz.underlying31 (by kernel_rfl) ?_
 exact eqf_cons (a:=sT x.1) (b:=sT y.1) rfl (by kernel_rfl) (by kernel_rfl) (run_equalIn_string _ _ _ _ _ Tryz.underlying9) (eqf_cons (a:=i6 x.2.1) (b:=i6 y.2.1) rfl (by kernel_rfl) (by kernel_rfl) (run_equalIn_int _ _ _ _ _ _ _ Tryz.underlying3) (eqf_last (a:=i6 x.2.2) (b:=i6 y.2.2) rfl (by kernel_rfl) (by kernel_rfl) (run_equalIn_int _ _ _ _ _ _ _ Tryz.underlying3)))
theorem mark_eq_self (x:MarkA):((x.1.toList==x.1.toList)&&((x.2.1==x.2.1)&&(x.2.2==x.2.2)))=true:=by simp
theorem mark_neq (x:MarkA)(w:World):(binOp .neq 31 (mV x) (mV x)).run Tryz.prog w=.ok bF w:=by
 have h:=mark_eql x x w
 rw[mark_eq_self]at h
 show (binOp .neq 31 (.agg _) (.agg _)).run _ _=_
 rw[run_neq_struct]
 show ((Op.equalIn 10000 31 (mV x) (mV x)).run Tryz.prog w).andThen _=_
 rw[h]; rfl
theorem mark_eqb (x:MarkA)(w:World):(binOp .eql 31 (mV x) (mV x)).run Tryz.prog w=.ok bT w:=by
 have h:=mark_eql x x w
 rw[mark_eq_self]at h
 show (binOp .eql 31 (.agg _) (.agg _)).run _ _=_
 rw[run_eql_struct]
 show ((Op.equalIn 10000 31 (mV x) (mV x)).run Tryz.prog w).andThen _=_
 rw[h]; rfl
theorem same23_any (A D:Option Addr)(c d:Nat)(ms:List MarkA)(w:World)(hA:kMark.C w A ms.length ms)(hD:kMark.C w D ms.length ms)(hn:ms.length≤1000):Rt 23 #[.slice A ms.length c,.slice D ms.length d] w bT:=by
 refine en Tryz.func23 rfl 26 [(0,aL A ms c),(1,aL D ms d)] (fun R_ hR_=>?_)
 refine sg (xe0 1 [(0,aL A ms c),(1,aL D ms d)] ?_)
 refine nl (sq (sg (xr 5 [(10,.eq bF)] [(10,bF)] [] [Value.bool ((ms.length:Int) !=(ms.length:Int))=bF] ⟨congrArg Value.bool (bneF rfl),trivial⟩ ?_)))
 refine nl (cf (sk (sq (sg (xr0 3 [(12,i6 (ms.length:Int)),(13,i6 0)] [10] ?_)))))
 refine nl (bk (X_loop (ι:=Nat) (fun i=>[(0,aL A ms c),(1,aL D ms d),(12,i6 (ms.length:Int)),(13,i6 (i:Int))]) (fun i wl=>i≤ms.length∧Below w.heap.size w wl) (fun i=>ms.length-i) 0 ⟨Nat.zero_le _,(Below.refl _ _)⟩ (by kernel_rfl) ?_))
 rintro i wl ⟨hi,HB⟩
 refine sq (X_region ?_)
 by_cases c1:(i:Int)<(ms.length:Int)
 ·refine xr1 1 [(14,.eq bT)] [(14,bT)] [] (dT c1) ?_
  refine nl (sq (ct (sk (sq (bk (sg (xr0 2 [(5,nv i)] [14] ?_)))))))
  refine nl (sq (X_still (by kernel_rfl) (by kernel_rfl) (fun wd2 b3 hh4=>?_)))
  refine xsC 2 [] [(16,aL A ms c),(17,nv i)] [] [] trivial ?_
  obtain⟨ad5,a6,c7⟩:=Kd.atMark (Kd.C_below hA (bt HB b3)) (i:=(i:Int)) (by omega) (by omega)
  replace c7:CellsAt wd2 (ad5.add ((i:Int).toNat*3)) [sT ((ms.getD i mark0).1),i6 ((ms.getD i mark0).2.1),i6 ((ms.getD i mark0).2.2)]:=c7
  refine xsC 4 [(18,.idx ad5),(19,.load (.agg #[sT ((ms.getD i mark0).1),i6 ((ms.getD i mark0).2.1),i6 ((ms.getD i mark0).2.2)]))] [(19,.agg #[sT ((ms.getD i mark0).1),i6 ((ms.getD i mark0).2.1),i6 ((ms.getD i mark0).2.2)]),(20,aL D ms d),(21,nv i)] [5,16,17] [A=some ad5,(0:Int)≤(i:Int),(i:Int)<(ms.length:Int),la 31 (ad5.add ((i:Int).toNat*3)) (.agg #[sT ((ms.getD i mark0).1),i6 ((ms.getD i mark0).2.1),i6 ((ms.getD i mark0).2.2)]) wd2] ⟨a6,(by omega),(by omega),loadsE rfl rfl c7 0 ⟨by kernel_rfl,by kernel_rfl⟩,trivial⟩ ?_
  obtain⟨ad8,a9,c10⟩:=Kd.atMark (Kd.C_below hD (bt HB b3)) (i:=(i:Int)) (by omega) (by omega)
  replace c10:CellsAt wd2 (ad8.add ((i:Int).toNat*3)) [sT ((ms.getD i mark0).1),i6 ((ms.getD i mark0).2.1),i6 ((ms.getD i mark0).2.2)]:=c10
  refine xsC 3 [(22,.idx ad8),(23,.load (.agg #[sT ((ms.getD i mark0).1),i6 ((ms.getD i mark0).2.1),i6 ((ms.getD i mark0).2.2)])),(24,.as bF)] [(24,bF)] [19,20,21] [D=some ad8,(0:Int)≤(i:Int),(i:Int)<(ms.length:Int),la 31 (ad8.add ((i:Int).toNat*3)) (.agg #[sT ((ms.getD i mark0).1),i6 ((ms.getD i mark0).2.1),i6 ((ms.getD i mark0).2.2)]) wd2,RunsAs Tryz.prog [(19,.agg #[sT ((ms.getD i mark0).1),i6 ((ms.getD i mark0).2.1),i6 ((ms.getD i mark0).2.2)]),(23,.agg #[sT ((ms.getD i mark0).1),i6 ((ms.getD i mark0).2.1),i6 ((ms.getD i mark0).2.2)])] (Go.Op.binOp Go.BinOp.neq 31 (Go.Operand.tmp 19) (Go.Operand.tmp 23) 31) 4 bF wd2] ⟨a9,(by omega),(by omega),loadsE rfl rfl c10 0 ⟨by kernel_rfl,by kernel_rfl⟩,runs_bin rfl rfl (run_eqGuard_agg _ _ _ _ _ _ _ (by kernel_rfl)) (mark_neq (ms.getD i mark0) _),trivial⟩ ?_
  refine XS_nil ?_
  refine cf (sk (rg (xe1 2 [(25,.eq (i6 ((i:Int)+1)))] [(0,aL A ms c),(1,aL D ms d),(12,i6 (ms.length:Int)),(13,i6 ((i:Int)+1))] (w6 ((i:Int)+1)) ?_)))
  refine nl ?_
  refine⟨(i+1),by kernel_rfl,?_,?_⟩
  ·exact⟨by omega,(bt HB b3)⟩
  (try dsimp only); omega
 refine xr1 1 [(14,.eq bF)] [(14,bF)] [] (dF c1) ?_
 refine nl (sq (cf (X_exit (sg (xe0 1 [(4,bT)] ?_)))))
 refine nl (X_ret (rj [bT] hR_ ?_))
 exact⟨rfl,HB⟩
end Go.Proofs.YtlnnjfdonilgmaaGreatDoor
