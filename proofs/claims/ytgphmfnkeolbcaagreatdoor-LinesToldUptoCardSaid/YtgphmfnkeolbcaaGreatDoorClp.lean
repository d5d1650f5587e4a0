import Derived.Test.YtgphmfnkeolbcaaGreatDoorGl
import Derived.Test.YtgphmfnkeolbcaaGreatDoorT5
import Derived.Test.YtgphmfnkeolbcaaGreatDoorStr2
import Derived.Test.YtgphmfnkeolbcaaGreatDoorP1
import Derived.Test.YtgphmfnkeolbcaaGreatDoorPatch
/- measure.lengths and what stands on it. Conditions: sizes, the tables of utf8, the errors' variables. -/
set_option linter.unusedVariables false
set_option linter.unusedSimpArgs false
set_option maxRecDepth 100000
namespace Go.Proofs.YtgphmfnkeolbcaaGreatDoor
open Go Go.RowKit Go.Proofs.YtgphmfnkeolbcaaGreatDoorW.PrintWords RX
theorem ent78 :Ent Tryz.prog 78:=ent_of Tryz.func78 (by kernel_rfl) rfl
theorem ent69 :Ent Tryz.prog 69:=ent_of Tryz.func69 (by kernel_rfl) rfl
theorem ent15 :Ent Tryz.prog 15:=ent_of Tryz.func15 (by kernel_rfl) rfl
theorem ent68 :Ent Tryz.prog 68:=ent_of Tryz.func68 (by kernel_rfl) rfl
set_option maxHeartbeats 1000000 in
theorem mlen_any (d:Nat)(xs:List OpA)(w:World)(hd:DeltaC w d xs)(hb:badE xs=0)(hn:xs.length≤1100000)(hz:∀ i,i<xs.length→opSz (xs.getD i op0))(hT:Tabs w)(es:List Addr)(hE:ErrsO w es):Rt 78 #[pw d 0] w (.tuple #[i6 (sumL (xs.map pelO)).1,i6 (sumL (xs.map pelO)).2.1,i6 (sumL (xs.map pelO)).2.2]):=by
 refine RX.enterM Tryz.func78 rfl 37 rfl [(0,pw d 0)] rfl (by kernel_rfl) (fun R_ hR_=>?_)
 refine RX.X_mark0 rfl ?_
 refine sg (xe0 3 [(0,pw d 0),(1000000,encD [])] ?_)
 refine nl (sg (xw 1 [] [(5,pw w.heap.size 0)] [] (w.alloc (.cells #[i6 0] 3)) [] trivial ?_))
 obtain⟨w1,w5,b2,k3,z4⟩:=new_world w #[i6 0] 3
 rw[w5]
 refine xw 1 [] [(6,pw w1.heap.size 0)] [] (w1.alloc (.cells #[i6 0] 3)) [] trivial ?_
 obtain⟨w6,w10,b7,k8,z9⟩:=new_world w1 #[i6 0] 3
 rw[w10]
 refine xw 1 [] [(7,pw w6.heap.size 0)] [] (w6.alloc (.cells #[i6 0] 3)) [] trivial ?_
 obtain⟨w11,w15,b12,k13,z14⟩:=new_world w6 #[i6 0] 3
 rw[w15]
 refine xst (i6 0) (Blk.below k3 (bt b7 b12)) 0 #[i6 0] (fun w16 g17 k18 z19=>?_)
 have hne20:w1.heap.size≠w.heap.size:=Nat.ne_of_gt (Nat.lt_of_lt_of_le (Blk.lt k3) (Nat.le_refl _))
 have k21:=Blk.other (Blk.below k8 b12) g17 hne20
 have hne22:w6.heap.size≠w.heap.size:=Nat.ne_of_gt (Nat.lt_of_lt_of_le (Blk.lt k3) (b7).size)
 have k23:=Blk.other k13 g17 hne22
 refine xst (i6 0) k21 0 #[i6 0] (fun w24 g25 k26 z27=>?_)
 have hne28:w.heap.size≠w1.heap.size:=Nat.ne_of_lt (Nat.lt_of_lt_of_le (Blk.lt k3) (Nat.le_refl _))
 have k29:=Blk.other k18 g25 hne28
 have hne30:w6.heap.size≠w1.heap.size:=Nat.ne_of_gt (Nat.lt_of_lt_of_le (Blk.lt k8) (Nat.le_refl _))
 have k31:=Blk.other k23 g25 hne30
 refine xst (i6 0) k31 0 #[i6 0] (fun w32 g33 k34 z35=>?_)
 have hne36:w.heap.size≠w6.heap.size:=Nat.ne_of_lt (Nat.lt_of_lt_of_le (Blk.lt k3) (b7).size)
 have k37:=Blk.other k29 g33 hne36
 have hne38:w1.heap.size≠w6.heap.size:=Nat.ne_of_lt (Nat.lt_of_lt_of_le (Blk.lt k8) (Nat.le_refl _))
 have k39:=Blk.other k26 g33 hne38
 refine nl (sq (sg (xr0 1 [(12,pw d 0)] [0] ?_)))
 refine xc 85 ent85 [pw d 0] (weach_any d _) ?_
 rintro e w43 ⟨g40,rfl,hge41,k42,b44⟩; refine⟨_,rfl,?_⟩
 have hgl_:=k42.lt
 refine nl (X_block ?_)
 have hc5_:w.heap.size≤w.heap.size∧w.heap.size<w32.heap.size:=⟨(Nat.le_refl _),Nat.lt_of_lt_of_le (Blk.lt k37) (Nat.le_refl _)⟩
 have hc6_:w.heap.size≤w1.heap.size∧w1.heap.size<w32.heap.size:=⟨(b2).size,Nat.lt_of_lt_of_le (Blk.lt k39) (Nat.le_refl _)⟩
 have hc7_:w.heap.size≤w6.heap.size∧w6.heap.size<w32.heap.size:=⟨((bt b2 b7)).size,Nat.lt_of_lt_of_le (Blk.lt k34) (Nat.le_refl _)⟩
 have hlh_:w32.heap.size≤w43.heap.size:=(b44).size
 have hDt_:∀ k_,(DI w.heap.size w32.heap.size w43.heap.size) k_→k_<w43.heap.size:=fun k_ h_=>by rcases h_ with h_|h_<;>omega
 have hne45:w.heap.size≠w1.heap.size:=(Nat.ne_of_lt (Nat.lt_of_lt_of_le (Blk.lt k3) (Nat.le_refl _)))
 have hne46:w.heap.size≠w6.heap.size:=(Nat.ne_of_lt (Nat.lt_of_lt_of_le (Blk.lt k3) (b7).size))
 have hne47:w1.heap.size≠w.heap.size:=(Ne.symm (Nat.ne_of_lt (Nat.lt_of_lt_of_le (Blk.lt k3) (Nat.le_refl _))))
 have hne48:w1.heap.size≠w6.heap.size:=(Nat.ne_of_lt (Nat.lt_of_lt_of_le (Blk.lt k8) (Nat.le_refl _)))
 have hne49:w6.heap.size≠w.heap.size:=(Ne.symm (Nat.ne_of_lt (Nat.lt_of_lt_of_le (Blk.lt k3) (b7).size)))
 have hne50:w6.heap.size≠w1.heap.size:=(Ne.symm (Nat.ne_of_lt (Nat.lt_of_lt_of_le (Blk.lt k8) (Nat.le_refl _))))
 have B51:Below w.heap.size w w43:=(bt (bg (bg (bg (bt (bt b2 b7) b12) g17 (Nat.le_refl _)) g25 (b2).size) g33 ((bt b2 b7)).size) b44)
 refine X_rangeM (α:=PEl) (ι:=Unit) rfl ent139 (encs:=fun x_:PEl=>#[x_.val]) (weach_seq (DI w.heap.size w32.heap.size w43.heap.size) g40 d xs w w43 (hd.below B51) hb hn hz (fun k_ h_=>.inl h_) hDt_ B51 hT es hE k42) (Below.refl _ _) hDt_ (fun _=>rfl) (by kernel_rfl) (fun pre_ M_ W_=>LenI w w.heap.size w1.heap.size w6.heap.size pre_ M_ W_) (fun c_ pre_ W_=>False) (fun M_=>LenI.own (B51).size M_) (fun _=>RX.ownFrom_pure _) (fun _ _ _ h_=>LenI.im h_ hc5_ hc6_ hc7_) (fun k_=>k_=w.heap.size∨k_=w1.heap.size∨k_=w6.heap.size) ⟨(Blk.below k37 b44),(Blk.below k39 b44),(Blk.below k34 b44),rfl,B51⟩ (fun x_ i_ W_=>True) (fun _=>RX.ownFrom_pure _) (fun x_ i_=>[(5,pw w.heap.size 0),(6,pw w1.heap.size 0),(7,pw w6.heap.size 0),(8,x_.val)]) ?_ ?_ ?_ ?_
 ·rintro lp_ pre_ M_ x_ W_ hlp_ hws_ ⟨hk5_,hk6_,hk7_,hM_,hBw_⟩ hpx_ hlen_
  refine XI_keep [5,6,7,12,13,14] [(5,pw w.heap.size 0),(6,pw w1.heap.size 0),(7,pw w6.heap.size 0),(12,pw d 0),(13,.func (.func 139) #[] #[pw g40 0]),(14,x_.val)] (by kernel_rfl) ?_
  refine XI_region (by kernel_rfl) (fun _ _ h_=>h_) ?_
  refine xe0 1 [(5,pw w.heap.size 0),(6,pw w1.heap.size 0),(7,pw w6.heap.size 0),(8,x_.val)] ?_
  refine nl ?_
  exact⟨(),by kernel_rfl,KeepsFrom.refl _ _,KpM.refl _ _ _,⟨hk5_,hk6_,hk7_,hM_,hBw_⟩,trivial⟩
 ·rintro lp_ pre_ M_ x_ i_ W_ hlp_ hws_ ⟨hk5_,hk6_,hk7_,hM_,hBw_⟩ _ hlen_
  refine XI_block ?_
  refine XI_seq ?_
  refine XI_region (by kernel_rfl) (fun _ _ h_=>h_) ?_
  rcases x_ with ⟨A_,n_,c_,t_,k_⟩|⟨A_,n_,c_,t_,v_⟩|⟨A_,n_,c_,k_⟩|⟨k_⟩
  ·refine xe0 1 [(5,pw w.heap.size 0),(6,pw w1.heap.size 0),(7,pw w6.heap.size 0),(8,.iface 249 (.agg #[.slice A_ n_ c_,sT t_,i6 k_])),(15,.iface 249 (.agg #[.slice A_ n_ c_,sT t_,i6 k_]))] ?_
   refine nl (XI_block ?_)
   refine XI_seq ?_
   refine XI_region (by kernel_rfl) (fun _ _ h_=>h_) ?_
   refine xr0 3 [(21,bF),(22,.agg #[.slice none 0 0,i6 0])] [] ?_
   refine nl (XI_cond false rfl ?_)
   refine XI_seq ?_
   refine XI_region (by kernel_rfl) (fun _ _ h_=>h_) ?_
   refine xr0 3 [(28,bF),(29,.agg #[i6 0])] [21,22] ?_
   refine nl (XI_cond false rfl ?_)
   refine XI_seq ?_
   refine XI_region (by kernel_rfl) (fun _ _ h_=>h_) ?_
   refine xr0 1 [] [15,28,29] ?_
   refine nl (XI_gen (by kernel_rfl) (fun _ _ h_=>h_) (S:=fun w_=>RX.Blk w_ w.heap.size 3 #[i6 ((sumL (pre_.map PEl.op)).1)]) [4] 5 (tf 0 5) (by kernel_rfl) (by kernel_rfl) (by kernel_rfl) (fun wd52 b53 h54=>?_))
   refine XG_runC (fuel':=3) (Blk.below hk5_ b53) [0,1] [(16,.load (i6 ((sumL (pre_.map PEl.op)).1)))] [i6 ((sumL (pre_.map PEl.op)).1),.iface 249 (.agg #[.slice A_ n_ c_,sT t_,i6 k_])] (tf 2 3) [(16,i6 ((sumL (pre_.map PEl.op)).1)),(17,.iface 249 (.agg #[.slice A_ n_ c_,sT t_,i6 k_]))] [8] (fun w_=>[la 3 (⟨w.heap.size,0,none⟩) (i6 ((sumL (pre_.map PEl.op)).1)) w_]) (fun w_ hC_=>⟨loads1 rfl (Blk.cell hC_ 0 _ rfl),trivial⟩) ?_
   refine XG_mid (fuel':=2) 2 (tf 3 2) _ rfl (by kernel_rfl) (by kernel_rfl) rfl ?_
   refine XL_inv 251 #[.agg #[.slice A_ n_ c_,sT t_,i6 k_]] rfl rfl (by kernel_rfl) (by kernel_rfl) (insertLen_any _ _ _ _ _ _) ?_
   rintro e w55 ⟨rfl,b56⟩; refine⟨_,rfl,?_⟩
   refine nl ?_
   refine⟨(Blk.below hk5_ (bt b53 b56)),?_⟩
   refine XG_runC (fuel':=1) (Blk.below hk5_ (bt b53 b56)) [3] [] [i6 (IntKind.i64.wrap (((sumL (pre_.map PEl.op)).1)+k_))] (tf 4 1) [(19,i6 (IntKind.i64.wrap (((sumL (pre_.map PEl.op)).1)+k_)))] [16,17,18] (fun w_=>[]) (fun w_ hC_=>trivial) ?_
   refine XG_last (fuel':=0) 4 (tf 5 0) _ rfl (by kernel_rfl) (by kernel_rfl) rfl (by decide) ?_
   refine xst (i6 (IntKind.i64.wrap (((sumL (pre_.map PEl.op)).1)+k_))) (Blk.below hk5_ (bt b53 b56)) 0 #[i6 (IntKind.i64.wrap (((sumL (pre_.map PEl.op)).1)+k_))] (fun w57 g58 k59 z60=>?_)
   have k61:=Blk.other (Blk.below hk6_ (bt b53 b56)) g58 hne47
   have k62:=Blk.other (Blk.below hk7_ (bt b53 b56)) g58 hne49
   refine nl (XG_done (by kernel_rfl) ?_)
   have hDw_:∀ k_,(DI w.heap.size w32.heap.size w43.heap.size) k_→k_<W_.heap.size:=fun k_ h_=>by have:=hDt_ k_ h_; omega
   have hsn_:=len_snoc pre_ (PEl.ins A_ n_ c_ t_ k_)
   have B63:Below w.heap.size w w57:=(bg (bt (bt hBw_ b53) b56) g58 (Nat.le_refl _))
   refine⟨(KeepsFrom.trans (KeepsFrom.trans (keeps_below b53) (keeps_below b56)) (keeps_store (Blk.below hk5_ (bt b53 b56)) g58)),M_,(KpM.trans (KpM.trans (KpM.below (fun k_ h_=>Nat.lt_of_lt_of_le (hDw_ k_ h_) (Nat.le_refl _)) b53) (KpM.below (fun k_ h_=>Nat.lt_of_lt_of_le (hDw_ k_ h_) b53.size) b56)) (KpM.grown g58 (fun k_ e_=>by injection e_ with e_; subst e_; exact⟨by rw[hM_]; first|exact .inl rfl|exact .inr (.inl rfl)|exact .inr (.inr rfl),fun h_=>by rcases h_ with h_|h_<;>omega⟩) (fun k_ h_=>Nat.lt_of_lt_of_le (hDw_ k_ h_) (Nat.le_trans b53.size b56.size)))),(fun k_ h_=>.inl h_),⟨?_,?_,?_,hM_,B63⟩⟩<;>rw[hsn_]
   ·exact k59
   ·exact k61
   exact k62
  ·refine xe0 1 [(5,pw w.heap.size 0),(6,pw w1.heap.size 0),(7,pw w6.heap.size 0),(8,.iface 253 (.agg #[.slice A_ n_ c_,sT t_,v_])),(15,.iface 253 (.agg #[.slice A_ n_ c_,sT t_,v_]))] ?_
   refine nl (XI_block ?_)
   refine XI_seq ?_
   refine XI_region (by kernel_rfl) (fun _ _ h_=>h_) ?_
   refine xr0 3 [(21,bF),(22,.agg #[.slice none 0 0,i6 0])] [] ?_
   refine nl (XI_cond false rfl ?_)
   refine XI_seq ?_
   refine XI_region (by kernel_rfl) (fun _ _ h_=>h_) ?_
   refine xr0 3 [(28,bF),(29,.agg #[i6 0])] [21,22] ?_
   refine nl (XI_cond false rfl ?_)
   refine XI_seq ?_
   refine XI_region (by kernel_rfl) (fun _ _ h_=>h_) ?_
   refine xr0 1 [] [15,28,29] ?_
   refine nl (XI_gen (by kernel_rfl) (fun _ _ h_=>h_) (S:=fun w_=>RX.Blk w_ w.heap.size 3 #[i6 ((sumL (pre_.map PEl.op)).1)]) [4] 5 (tf 0 5) (by kernel_rfl) (by kernel_rfl) (by kernel_rfl) (fun wd64 b65 h66=>?_))
   refine XG_runC (fuel':=3) (Blk.below hk5_ b65) [0,1] [(16,.load (i6 ((sumL (pre_.map PEl.op)).1)))] [i6 ((sumL (pre_.map PEl.op)).1),.iface 253 (.agg #[.slice A_ n_ c_,sT t_,v_])] (tf 2 3) [(16,i6 ((sumL (pre_.map PEl.op)).1)),(17,.iface 253 (.agg #[.slice A_ n_ c_,sT t_,v_]))] [8] (fun w_=>[la 3 (⟨w.heap.size,0,none⟩) (i6 ((sumL (pre_.map PEl.op)).1)) w_]) (fun w_ hC_=>⟨loads1 rfl (Blk.cell hC_ 0 _ rfl),trivial⟩) ?_
   refine XG_mid (fuel':=2) 2 (tf 3 2) _ rfl (by kernel_rfl) (by kernel_rfl) rfl ?_
   refine XL_inv 253 #[.agg #[.slice A_ n_ c_,sT t_,v_]] rfl rfl (by kernel_rfl) (by kernel_rfl) (embedLen_any _ _ _ _ _ _) ?_
   rintro e w67 ⟨rfl,b68⟩; refine⟨_,rfl,?_⟩
   refine nl ?_
   refine⟨(Blk.below hk5_ (bt b65 b68)),?_⟩
   refine XG_runC (fuel':=1) (Blk.below hk5_ (bt b65 b68)) [3] [] [i6 (IntKind.i64.wrap (((sumL (pre_.map PEl.op)).1)+1))] (tf 4 1) [(19,i6 (IntKind.i64.wrap (((sumL (pre_.map PEl.op)).1)+1)))] [16,17,18] (fun w_=>[]) (fun w_ hC_=>trivial) ?_
   refine XG_last (fuel':=0) 4 (tf 5 0) _ rfl (by kernel_rfl) (by kernel_rfl) rfl (by decide) ?_
   refine xst (i6 (IntKind.i64.wrap (((sumL (pre_.map PEl.op)).1)+1))) (Blk.below hk5_ (bt b65 b68)) 0 #[i6 (IntKind.i64.wrap (((sumL (pre_.map PEl.op)).1)+1))] (fun w69 g70 k71 z72=>?_)
   have k73:=Blk.other (Blk.below hk6_ (bt b65 b68)) g70 hne47
   have k74:=Blk.other (Blk.below hk7_ (bt b65 b68)) g70 hne49
   refine nl (XG_done (by kernel_rfl) ?_)
   have hDw_:∀ k_,(DI w.heap.size w32.heap.size w43.heap.size) k_→k_<W_.heap.size:=fun k_ h_=>by have:=hDt_ k_ h_; omega
   have hsn_:=len_snoc pre_ (PEl.emb A_ n_ c_ t_ v_)
   have B75:Below w.heap.size w w69:=(bg (bt (bt hBw_ b65) b68) g70 (Nat.le_refl _))
   refine⟨(KeepsFrom.trans (KeepsFrom.trans (keeps_below b65) (keeps_below b68)) (keeps_store (Blk.below hk5_ (bt b65 b68)) g70)),M_,(KpM.trans (KpM.trans (KpM.below (fun k_ h_=>Nat.lt_of_lt_of_le (hDw_ k_ h_) (Nat.le_refl _)) b65) (KpM.below (fun k_ h_=>Nat.lt_of_lt_of_le (hDw_ k_ h_) b65.size) b68)) (KpM.grown g70 (fun k_ e_=>by injection e_ with e_; subst e_; exact⟨by rw[hM_]; first|exact .inl rfl|exact .inr (.inl rfl)|exact .inr (.inr rfl),fun h_=>by rcases h_ with h_|h_<;>omega⟩) (fun k_ h_=>Nat.lt_of_lt_of_le (hDw_ k_ h_) (Nat.le_trans b65.size b68.size)))),(fun k_ h_=>.inl h_),⟨?_,?_,?_,hM_,B75⟩⟩<;>rw[hsn_]
   ·exact k71
   ·exact k73
   exact k74
  ·refine xe0 1 [(5,pw w.heap.size 0),(6,pw w1.heap.size 0),(7,pw w6.heap.size 0),(8,.iface 128 (.agg #[.slice A_ n_ c_,i6 k_])),(15,.iface 128 (.agg #[.slice A_ n_ c_,i6 k_]))] ?_
   refine nl (XI_block ?_)
   refine XI_seq ?_
   refine XI_region (by kernel_rfl) (fun _ _ h_=>h_) ?_
   refine xr0 3 [(21,bT),(22,.agg #[.slice A_ n_ c_,i6 k_])] [] ?_
   refine nl (XI_cond true rfl ?_)
   refine XI_seq ?_
   refine XI_region (by kernel_rfl) (fun _ _ h_=>h_) ?_
   refine xw 1 [] [(9,pw W_.heap.size 0)] [8,15,21] (W_.alloc (.cells #[.slice none 0 0,i6 0] 128)) [] trivial ?_
   obtain⟨w76,w80,b77,k78,z79⟩:=new_world W_ #[.slice none 0 0,i6 0] 128
   rw[w80]
   refine xst (.agg #[.slice A_ n_ c_,i6 k_]) k78 0 #[.slice A_ n_ c_,i6 k_] (fun w81 g82 k83 z84=>?_)
   have hne85:w.heap.size≠W_.heap.size:=Blk.tne (Blk.below hk5_ b77) k78 rfl
   have k86:=Blk.other (Blk.below hk5_ b77) g82 hne85
   have hne87:w1.heap.size≠W_.heap.size:=Blk.tne (Blk.below hk6_ b77) k78 rfl
   have k88:=Blk.other (Blk.below hk6_ b77) g82 hne87
   have hne89:w6.heap.size≠W_.heap.size:=Blk.tne (Blk.below hk7_ b77) k78 rfl
   have k90:=Blk.other (Blk.below hk7_ b77) g82 hne89
   refine nl (XI_region (by kernel_rfl) (fun _ _ h_=>h_) ?_)
   refine xr 4 [(23,.load (i6 ((sumL (pre_.map PEl.op)).2.1))),(25,.load (i6 k_))] [(26,i6 (IntKind.i64.wrap (((sumL (pre_.map PEl.op)).2.1)+k_)))] [9,22] [_,_] ⟨lc 3 k88 0,lc 3 k83 1,trivial⟩ ?_
   refine xst (i6 (IntKind.i64.wrap (((sumL (pre_.map PEl.op)).2.1)+k_))) k88 0 #[i6 (IntKind.i64.wrap (((sumL (pre_.map PEl.op)).2.1)+k_))] (fun w91 g92 k93 z94=>?_)
   have k95:=Blk.other k86 g92 hne45
   have k96:=Blk.other k90 g92 hne50
   refine nl ?_
   have hDw_:∀ k_,(DI w.heap.size w32.heap.size w43.heap.size) k_→k_<W_.heap.size:=fun k_ h_=>by have:=hDt_ k_ h_; omega
   have hsn_:=len_snoc pre_ (PEl.ret A_ n_ c_ k_)
   have B99:Below w.heap.size w w91:=(bg (bg (bt hBw_ b77) g82 (hBw_).size) g92 (b2).size)
   refine⟨(KeepsFrom.trans (KeepsFrom.trans (keeps_below b77) (keeps_store k78 g82)) (keeps_store k88 g92)),M_,(KpM.trans (KpM.below hDw_ (bg b77 g82 (Nat.le_refl _))) (KpM.grown g92 (fun k_ e_=>by injection e_ with e_; subst e_; exact⟨by rw[hM_]; first|exact .inl rfl|exact .inr (.inl rfl)|exact .inr (.inr rfl),fun h_=>by rcases h_ with h_|h_<;>omega⟩) (fun k_ h_=>Nat.lt_of_lt_of_le (hDw_ k_ h_) (Nat.le_trans b77.size g82.size)))),(fun k_ h_=>.inl h_),⟨?_,?_,?_,hM_,B99⟩⟩<;>rw[hsn_]
   ·exact k95
   ·exact k93
   exact k96
  refine xe0 1 [(5,pw w.heap.size 0),(6,pw w1.heap.size 0),(7,pw w6.heap.size 0),(8,.iface 133 (.agg #[i6 k_])),(15,.iface 133 (.agg #[i6 k_]))] ?_
  refine nl (XI_block ?_)
  refine XI_seq ?_
  refine XI_region (by kernel_rfl) (fun _ _ h_=>h_) ?_
  refine xr0 3 [(21,bF),(22,.agg #[.slice none 0 0,i6 0])] [] ?_
  refine nl (XI_cond false rfl ?_)
  refine XI_seq ?_
  refine XI_region (by kernel_rfl) (fun _ _ h_=>h_) ?_
  refine xr0 3 [(28,bT),(29,.agg #[i6 k_])] [21,22] ?_
  refine nl (XI_cond true rfl ?_)
  refine XI_seq ?_
  refine XI_region (by kernel_rfl) (fun _ _ h_=>h_) ?_
  refine xw 1 [] [(10,pw W_.heap.size 0)] [8,15,28] (W_.alloc (.cells #[i6 0] 133)) [] trivial ?_
  obtain⟨w100,w104,b101,k102,z103⟩:=new_world W_ #[i6 0] 133
  rw[w104]
  refine xst (.agg #[i6 k_]) k102 0 #[i6 k_] (fun w105 g106 k107 z108=>?_)
  have hne109:w.heap.size≠W_.heap.size:=Blk.tne (Blk.below hk5_ b101) k102 rfl
  have k110:=Blk.other (Blk.below hk5_ b101) g106 hne109
  have hne111:w1.heap.size≠W_.heap.size:=Blk.tne (Blk.below hk6_ b101) k102 rfl
  have k112:=Blk.other (Blk.below hk6_ b101) g106 hne111
  have hne113:w6.heap.size≠W_.heap.size:=Blk.tne (Blk.below hk7_ b101) k102 rfl
  have k114:=Blk.other (Blk.below hk7_ b101) g106 hne113
  refine nl (XI_region (by kernel_rfl) (fun _ _ h_=>h_) ?_)
  refine xr 4 [(30,.load (i6 ((sumL (pre_.map PEl.op)).2.2))),(32,.load (i6 k_))] [(33,i6 (IntKind.i64.wrap (((sumL (pre_.map PEl.op)).2.2)+k_)))] [10,29] [_,_] ⟨lc 3 k114 0,lc 3 k107 0,trivial⟩ ?_
  refine xst (i6 (IntKind.i64.wrap (((sumL (pre_.map PEl.op)).2.2)+k_))) k114 0 #[i6 (IntKind.i64.wrap (((sumL (pre_.map PEl.op)).2.2)+k_))] (fun w115 g116 k117 z118=>?_)
  have k119:=Blk.other k110 g116 hne46
  have k120:=Blk.other k112 g116 hne48
  refine nl ?_
  have hDw_:∀ k_,(DI w.heap.size w32.heap.size w43.heap.size) k_→k_<W_.heap.size:=fun k_ h_=>by have:=hDt_ k_ h_; omega
  have hsn_:=len_snoc pre_ (PEl.del k_)
  have B123:Below w.heap.size w w115:=(bg (bg (bt hBw_ b101) g106 (hBw_).size) g116 ((bt b2 b7)).size)
  refine⟨(KeepsFrom.trans (KeepsFrom.trans (keeps_below b101) (keeps_store k102 g106)) (keeps_store k114 g116)),M_,(KpM.trans (KpM.below hDw_ (bg b101 g106 (Nat.le_refl _))) (KpM.grown g116 (fun k_ e_=>by injection e_ with e_; subst e_; exact⟨by rw[hM_]; first|exact .inl rfl|exact .inr (.inl rfl)|exact .inr (.inr rfl),fun h_=>by rcases h_ with h_|h_<;>omega⟩) (fun k_ h_=>Nat.lt_of_lt_of_le (hDw_ k_ h_) (Nat.le_trans b101.size g106.size)))),(fun k_ h_=>.inl h_),⟨?_,?_,?_,hM_,B123⟩⟩<;>rw[hsn_]
  ·exact k119
  ·exact k120
  exact k117
 ·rintro D125 pre_ M_ w124 D126 S127 ⟨hk5_,hk6_,hk7_,hM_,hBw_⟩ K128
  have hall_:pre_.map PEl.op=xs.map pelO:=by have h_:POK xs pre_:=S127.1; unfold POK at h_; rw[S127.2,List.take_length]at h_; exact h_
  rw[hall_]at hk5_ hk6_ hk7_
  have hds_:Defs (D125::[]) w124:=Defs.cons K128 (fun _ h_=>by cases h_)
  have hdge_:∀ D_∈D125::[],w43.heap.size≤D_:=fun D_ hm_=>(List.mem_cons.1 hm_).elim (fun e_=>by omega) (fun h_=>by cases h_)
  refine sq (X_still (by kernel_rfl) (by kernel_rfl) (fun wd129 b130 h131=>?_))
  refine xse 6 [(34,.load (i6 ((sumL (xs.map pelO)).1))),(35,.load (i6 ((sumL (xs.map pelO)).2.1))),(36,.load (i6 ((sumL (xs.map pelO)).2.2)))] [(2,i6 ((sumL (xs.map pelO)).1)),(3,i6 ((sumL (xs.map pelO)).2.1)),(4,i6 ((sumL (xs.map pelO)).2.2)),(1000000,encD (D125::[]))] [_,_,_] ⟨lc 3 (Blk.below hk5_ b130) 0,lc 3 (Blk.below hk6_ b130) 0,lc 3 (Blk.below hk7_ b130) 0,trivial⟩ ?_
  refine XS_nil ?_
  refine X_ret (RX.retM_ok (P:=Tryz.prog) (fn:=Tryz.f78) (N:=37) (R:=R_) (ds:=(D125::[])) (dsOf_enc (by kernel_rfl)) (List.nodup_cons.2 ⟨fun h_=>(by cases h_),List.nodup_nil⟩) (Defs.below b130 hds_) [i6 ((sumL (xs.map pelO)).1),i6 ((sumL (xs.map pelO)).2.1),i6 ((sumL (xs.map pelO)).2.2)] (by kernel_rfl) (fun w_ ho_=>hR_ _ _ ?_))
  exact⟨rfl,Off.below ho_ (bt hBw_ b130) (fun D_ hm_=>Nat.le_trans (B51).size (hdge_ D_ hm_))⟩
 rintro D133 c_ pre_ w132 D134 S135 hix_ K136
 exact hix_.elim
noncomputable def mResO (xs:List OpA):Int:=IntKind.i64.wrap ((sumL (xs.map pelO)).1+(sumL (xs.map pelO)).2.1)
noncomputable def mBaseO (xs:List OpA):Int:=IntKind.i64.wrap ((sumL (xs.map pelO)).2.1+(sumL (xs.map pelO)).2.2)
theorem mres_any (d:Nat)(xs:List OpA)(w:World)(hd:DeltaC w d xs)(hb:badE xs=0)(hn:xs.length≤1100000)(hz:∀ i,i<xs.length→opSz (xs.getD i op0))(hT:Tabs w)(es:List Addr)(hE:ErrsO w es):Rt 69 #[pw d 0] w (i6 (mResO xs)):=by
 refine en Tryz.func69 rfl 15 [(0,pw d 0)] (fun R_ hR_=>?_)
 refine sg (xe0 1 [(0,pw d 0)] ?_)
 refine nl (sg (xe0 1 [(7,pw d 0)] ?_))
 refine xc 78 ent78 [pw d 0] (mlen_any d xs _ hd hb hn hz hT es hE) ?_
 rintro e w1 ⟨rfl,b2⟩; refine⟨_,rfl,?_⟩
 refine xe0 7 [(3,i6 ((sumL (xs.map pelO)).1)),(4,i6 ((sumL (xs.map pelO)).2.1))] ?_
 refine nl (sg (xe0 4 [(2,i6 (IntKind.i64.wrap (((sumL (xs.map pelO)).1)+((sumL (xs.map pelO)).2.1))))] ?_))
 refine nl (X_ret (rj [i6 (IntKind.i64.wrap (((sumL (xs.map pelO)).1)+((sumL (xs.map pelO)).2.1)))] hR_ ?_))
 exact⟨rfl,b2⟩
theorem mbase_any (d:Nat)(xs:List OpA)(w:World)(hd:DeltaC w d xs)(hb:badE xs=0)(hn:xs.length≤1100000)(hz:∀ i,i<xs.length→opSz (xs.getD i op0))(hT:Tabs w)(es:List Addr)(hE:ErrsO w es):Rt 15 #[pw d 0] w (i6 (mBaseO xs)):=by
 refine en Tryz.func15 rfl 15 [(0,pw d 0)] (fun R_ hR_=>?_)
 refine sg (xe0 1 [(0,pw d 0)] ?_)
 refine nl (sg (xe0 1 [(7,pw d 0)] ?_))
 refine xc 78 ent78 [pw d 0] (mlen_any d xs _ hd hb hn hz hT es hE) ?_
 rintro e w1 ⟨rfl,b2⟩; refine⟨_,rfl,?_⟩
 refine xe0 7 [(4,i6 ((sumL (xs.map pelO)).2.1)),(5,i6 ((sumL (xs.map pelO)).2.2))] ?_
 refine nl (sg (xe0 4 [(2,i6 (IntKind.i64.wrap (((sumL (xs.map pelO)).2.1)+((sumL (xs.map pelO)).2.2))))] ?_))
 refine nl (X_ret (rj [i6 (IntKind.i64.wrap (((sumL (xs.map pelO)).2.1)+((sumL (xs.map pelO)).2.2)))] hR_ ?_))
 exact⟨rfl,b2⟩
theorem mdoc_any (d:Nat)(xs:List OpA)(w:World)(hd:DeltaC w d xs)(hb:badE xs=0)(hn:xs.length≤1100000)(hz:∀ i,i<xs.length→opSz (xs.getD i op0))(hT:Tabs w)(es:List Addr)(hE:ErrsO w es):Rt 68 #[pw d 0] w (.bool (decide (mBaseO xs=0))):=by
 refine en Tryz.func68 rfl 6 [(0,pw d 0)] (fun R_ hR_=>?_)
 refine sg (xe0 1 [(0,pw d 0)] ?_)
 refine nl (sg (xe0 1 [(3,pw d 0)] ?_))
 refine xc 15 ent15 [pw d 0] (mbase_any d xs _ hd hb hn hz hT es hE) ?_
 rintro e w1 ⟨rfl,b2⟩; refine⟨_,rfl,?_⟩
 by_cases c3:(mBaseO xs)=0
 ·refine xe1 2 [(5,.eq bT)] [(2,bT)] (bE c3) ?_
  refine nl (X_ret (rj [bT] hR_ ?_))
  exact⟨by simp[*]; rfl,b2⟩
 refine xe1 2 [(5,.eq bF)] [(2,bF)] (bN c3) ?_
 refine nl (X_ret (rj [bF] hR_ ?_))
 exact⟨by simp[*]; rfl,b2⟩
namespace B
theorem can_tx {xs:List OpA}(h:∀ o∈xs,fine o):txS (can xs)≤txS xs:=by
  obtain⟨h1,h2⟩:=run_sz xs h
  obtain⟨d1,d2⟩:=dels_sz (g:=(run xs).2) h1
  unfold can fin
  split
  · have:=txS_take (dels (run xs).1 (run xs).2) ((dels (run xs).1 (run xs).2).length-1); omega
  · omega
end B
theorem ins_ref {o:OpA}(h:pErr o=0)(hk:o.kind=1∨o.kind=2):refuseP o=0:=by
  have h1:=B.has_ok h
  unfold pErr at h
  rwa [h1,if_neg (by simp),if_pos hk]at h
theorem doc_ref {xs:List OpA}(hb:badE xs=0)(hd:isDoc xs=true):∀ t,t<xs.length→refuseP (xs.getD t op0)=0:=
  fun t ht=>ins_ref (badE_getD hb ht) (isDoc_at hd ht)
theorem cellsP_len1 (o:OpA):(cellsP o).length≤o.text.size+1:=by
  unfold cellsP
  split
  · simp
  · rw[List.length_map]; have:=U.sc_le o.text; omega
theorem cellsAll_few :∀ xs:List OpA,(cellsAll xs).length≤B.txS xs+xs.length
  | []=>by simp[cellsAll]
  | o::r=>by
    have h1:=cellsAll_few r
    have h2:=cellsP_len1 o
    unfold cellsAll at h1 ⊢
    rw[List.flatMap_cons,List.length_append,List.length_cons]
    show _≤(o.text.size+B.txS r)+_
    omega
theorem cellsAll_cons (o:OpA)(r:List OpA):cellsAll (o::r)=cellsP o++cellsAll r:=by unfold cellsAll; rw[List.flatMap_cons]
theorem cellsAll_app (xs ys:List OpA):cellsAll (xs++ys)=cellsAll xs++cellsAll ys:=by unfold cellsAll; rw[List.flatMap_append]
theorem pelO_ins {o:OpA}(hk:o.kind=1∨o.kind=2):(pelO o).2=((cellsP o).length:Int):=by
  unfold pelO cellsP
  rcases hk with hk|hk
  · rw[if_pos hk,if_neg (by omega),List.length_map]
  · rw[if_neg (by omega),if_pos hk,if_pos hk]; rfl
theorem sumL_doc :∀ xs:List OpA,(∀ o∈xs,o.kind=1∨o.kind=2)→(cellsAll xs).length≤9223372036854775807→sumL (xs.map pelO)=(((cellsAll xs).length:Int),0,0):=by
  refine B.snoc_ind (fun _ _=>rfl) ?_
  intro xs a ih hd hl
  have hk:=hd a (List.mem_append_right _ (List.mem_singleton_self a))
  rw[cellsAll_app,List.length_append]at hl
  have e1:cellsAll [a]=cellsP a:=by rw[cellsAll_cons]; exact List.append_nil _
  rw[e1]at hl
  rw[List.map_append,List.map_cons,List.map_nil,sumL_snoc,ih (fun o ho=>hd o (List.mem_append_left _ ho)) (by omega),cellsAll_app,e1,List.length_append]
  unfold stepL
  rw[if_neg (by show ¬a.kind=3; omega),if_neg (by show ¬a.kind=4; omega),pelO_ins hk,IntWalk.i64_in _ ⟨by omega,by omega⟩]
  simp
theorem doc_mem {xs:List OpA}(hd:isDoc xs=true):∀ o∈xs,o.kind=1∨o.kind=2:=fun o ho=>by
  obtain⟨i,hi,rfl⟩:=List.mem_iff_getElem.1 ho
  have:=isDoc_at hd hi
  rwa [List.getD_eq_getElem?_getD,List.getElem?_eq_getElem hi]at this
theorem doc_of_mem {xs:List OpA}(h:∀ o∈xs,o.kind=1∨o.kind=2):isDoc xs=true:=isDoc_yes fun t ht=>h _ (getD_mem op0 ht)
theorem doc_res {xs:List OpA}(hd:isDoc xs=true)(hl:(cellsAll xs).length≤9223372036854775807):mResO xs=((cellsAll xs).length:Int):=by
  unfold mResO
  rw[sumL_doc xs (doc_mem hd) hl]
  show IntKind.i64.wrap (((cellsAll xs).length:Int)+0)=_
  rw[Int.add_zero,IntWalk.i64_in _ ⟨by omega,by omega⟩]
end Go.Proofs.YtgphmfnkeolbcaaGreatDoor
