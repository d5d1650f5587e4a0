import Derived.Test.YtlnnjfdonilgmaaGreatDoorK6
/- marks.Move. Conditions: sizes, the tables of utf8, the errors' variables. -/
set_option linter.unusedVariables false
set_option linter.unusedSimpArgs false
set_option maxRecDepth 100000
namespace Go.Proofs.YtlnnjfdonilgmaaGreatDoor
open Go Go.RowKit Go.Proofs.YtlnnjfdonilgmaaGreatDoorW.PrintWords RX
theorem ent16 :Ent Tryz.prog 16:=ent_of Tryz.func16 (by kernel_rfl) rfl
theorem plist2 (d:Nat)(xs:List OpA)(A:Option Addr)(c:Nat)(p q:Int)(b:Bool)(w:World)(hd:DeltaC w d xs)(hb:badE xs=0)(hn:xs.length≤1100000)(hz:∀ i,i<xs.length→opSz (xs.getD i op0))(hC:(Kd.int .i64).C w A 2 [p,q])(hT:Tabs w)(es:List Addr)(hE:ErrsM w es):
  Calls Tryz.prog 35 #[pw d 0,.slice A 2 c,.bool b] w fun e w'=>Below w.heap.size w w'∧((∃ A' c',e=.returned (.tuple #[.slice A' 2 c',.nilIface])∧((plE xs p b).2=0∧(plE xs q b).2=0)∧(Kd.int .i64).R 3 w' w.heap.size (OkFrom w.heap.size) (.slice A' 2 c') [(plE xs p b).1,(plE xs q b).1])∨(∃ n,0<n∧e=.returned (.tuple #[.slice none 0 0,errV es n])∧¬((plE xs p b).2=0∧(plE xs q b).2=0))):=by
 refine(plist_any d xs A c [p,q] b w hd hb hn hz hC (by simp) hT es hE).mono ?_
 rintro e w' (⟨A',c',rfl,h1,h2,h3⟩|⟨n,i,h1,h2,rfl,h3,h4,h5⟩)
 ·exact⟨h3,.inl ⟨A',c',rfl,⟨h1 0 (by simp),h1 1 (by simp)⟩,h2⟩⟩
 refine⟨h5,.inr ⟨n,h1,rfl,fun h=>h4 ?_⟩⟩
 match i,h3 with
 | 0,_=>exact h.1
 | 1,_=>exact h.2
set_option maxHeartbeats 1000000 in
theorem mmove_any (gm B:Nat)(ms:List MarkA)(d:Nat)(xs:List OpA)(au:ByteArray)(w:World)(hk:RX.Blk w gm 73 #[.map (some B)])(hM:MapL Tryz.prog 9 markR w B (mL ms))(hn:ms.length≤1000)(hks:∀ x∈ms,x.1.size≤9223372036854775807)(hd:DeltaC w d xs)(hb:badE xs=0)(hnx:xs.length≤1100000)(hz:∀ i,i<xs.length→opSz (xs.getD i op0))(hT:Tabs w)(es:List Addr)(hE:ErrsM w es):
  Calls Tryz.prog 16 #[pw gm 0,pw d 0,sT au] w fun e w'=>e=.returned (errV es (mvE xs au ms))∧Chg (· =gm) w w'∧∃ B',RX.Blk w' gm 73 #[.map (some B')]∧MapL Tryz.prog 9 markR w' B' (mL (mvMs xs au ms))∧(B'=B∨w.heap.size≤B'):=by
 refine RX.enterM Tryz.func16 rfl 48 rfl [(0,pw gm 0),(1,pw d 0),(2,sT au)] rfl (by kernel_rfl) (fun R_ hR_=>?_)
 refine RX.X_mark0 rfl ?_
 refine sg (xwe 1 [] [(0,pw gm 0),(2,sT au),(4,pw w.heap.size 0),(1000000,encD [])] (w.alloc (.cells #[pw d 0] 39)) [] trivial ?_)
 obtain⟨w1,w5,b2,k3,z4⟩:=new_world w #[pw d 0] 39
 rw[w5]
 refine xw 1 [] [(5,pw w1.heap.size 0)] [2] (w1.alloc (.cells #[sT au] 9)) [] trivial ?_
 obtain⟨w6,w10,b7,k8,z9⟩:=new_world w1 #[sT au] 9
 rw[w10]
 refine xw 1 [] [(6,pw w6.heap.size 0)] [] (w6.alloc (.cells #[.nilIface] 45)) [] trivial ?_
 obtain⟨w11,w15,b12,k13,z14⟩:=new_world w6 #[.nilIface] 45
 rw[w15]
 refine nl (sg (XL_mapMake rfl rfl rfl (fun w16 b17 s18 M19=>?_)))
 have M20:MapL Tryz.prog 9 markR w16 w11.heap.size (mL []):=M19 9 markR
 refine xw 1 [] [(7,pw w16.heap.size 0),(11,.map (some w11.heap.size))] [] (w16.alloc (.cells #[.map none] 71)) [] trivial ?_
 obtain⟨w21,w25,b22,k23,z24⟩:=new_world w16 #[.map none] 71
 rw[w25]
 refine xst (.map (some w11.heap.size)) k23 0 #[.map (some w11.heap.size)] (fun w26 g27 k28 z29=>?_)
 have B30:Below w.heap.size w w21:=(bt (bt (bt (bt b2 b7) b12) b17) b22)
 have hne31:gm≠w16.heap.size:=Blk.tne (Blk.below hk B30) k23 rfl
 have k32:=Blk.other (Blk.below hk B30) g27 hne31
 have hne33:w.heap.size≠w16.heap.size:=Blk.tne (Blk.below k3 (bt (bt (bt b7 b12) b17) b22)) k23 rfl
 have k34:=Blk.other (Blk.below k3 (bt (bt (bt b7 b12) b17) b22)) g27 hne33
 have hne35:w1.heap.size≠w16.heap.size:=Blk.tne (Blk.below k8 (bt (bt b12 b17) b22)) k23 rfl
 have k36:=Blk.other (Blk.below k8 (bt (bt b12 b17) b22)) g27 hne35
 have hne37:w6.heap.size≠w16.heap.size:=Blk.tne (Blk.below k13 (bt b17 b22)) k23 rfl
 have k38:=Blk.other (Blk.below k13 (bt b17 b22)) g27 hne37
 refine nl (sq (sg (xr0 1 [(12,pw gm 0)] [11] ?_)))
 have B45:Below w.heap.size w w26:=(bg B30 g27 ((bt (bt (bt b2 b7) b12) b17)).size)
 refine xc 24 ent24 [pw gm 0] (mall_any gm B ms _ k32 (MapL.below hM B45) (by omega) hks) ?_
 rintro e w46 ⟨g39,A40,c41,rfl,hge42,k43,r44,b47⟩; refine⟨_,rfl,?_⟩
 have hr9_:kMark.R 31 w46 w26.heap.size (fun k_=>w26.heap.size≤k_∧k_<w46.heap.size) (aL A40 ms c41) ms:=Kd.R_mono (Kd.R_bound r44) (fun k_ hk_=>⟨hk_.2.1,hk_.2.2.1⟩)
 have hgl_:=k43.lt
 refine nl (X_block ?_)
 have hlh_:w26.heap.size≤w46.heap.size:=(b47).size
 have hwl_:w.heap.size≤w26.heap.size:=(B45).size
 have hhiW_:w46.heap.size≤w46.heap.size:=(Nat.le_refl _)
 have hB7w_:w.heap.size≤w11.heap.size:=((bt (bt b2 b7) b12)).size
 have hB7l_:w11.heap.size<w26.heap.size:=Nat.lt_of_lt_of_le (MapL.lt M20) ((bg b22 g27 (Nat.le_refl _))).size
 have hB7W_:w11.heap.size<w46.heap.size:=by omega
 have hDt_:∀ k_,(DI w.heap.size w26.heap.size w46.heap.size) k_→k_<w46.heap.size:=fun k_ h_=>by rcases h_ with h_|h_<;>omega
 have hr90_:=hr9_
 have B48:Below w16.heap.size w16 w46:=(bt (bg b22 g27 (Nat.le_refl _)) b47)
 have hmap0_:=(MapL.below M20 B48)
 have hRis_:=MapL.risM hM (Maps.string_keyed Tryz.underlying9)
 have hgmB_:=MapL.ne hM hk
 refine X_rangeM (α:=MarkA) (ι:=Nat) rfl ent55 (encs:=(fun x_:MarkA=>#[mV x_])) (vals_seq (DI w.heap.size w26.heap.size w46.heap.size) (fun k_=>w26.heap.size≤k_∧k_<w46.heap.size) w26.heap.size g39 A40 c41 ms w46 hr90_ (fun k_ h_=>.inr h_) hDt_ (by omega) k43) (Below.refl _ _) hDt_ (fun _=>rfl) (by kernel_rfl) (fun pre_ M_ W_=>MvI w w.heap.size w1.heap.size w6.heap.size w16.heap.size w11.heap.size d xs au pre_ M_ W_) (fun c_ pre_ W_=>MvX w w6.heap.size xs au (errV es 11) c_ pre_ W_) (fun M_=>MvI.own (by omega) hB7W_ M_) (fun c_=>MvX.own (by omega) c_) (fun pre_ M_ W_ h_ k_ hk_=>by obtain⟨_,_,_,_,h5_,_,rfl,_⟩:=h_; obtain rfl:k_=w11.heap.size:=hk_; exact⟨fun h_=>by rcases h_ with h_|h_<;>omega,MapL.lt h5_⟩) (· =w11.heap.size) ⟨(Blk.below k34 b47),(Blk.below k36 b47),(Blk.below k38 b47),(Blk.below k28 b47),hmap0_,(fun _ h_=>by cases h_),rfl,(bt B45 b47)⟩ (fun x_ i_ W_=>RX.Blk W_ i_ 31 #[sT x_.1,i6 x_.2.1,i6 x_.2.2]∧x_∈ms) (fun i_=>OwnFrom.and (ownFrom_blk (fun _=>i_) 31 (fun(x_:MarkA)=>#[sT x_.1,i6 x_.2.1,i6 x_.2.2])) (RX.ownFrom_pure (fun x_=>x_∈ms))) (fun x_ i_=>[(4,pw w.heap.size 0),(5,pw w1.heap.size 0),(6,pw w6.heap.size 0),(7,pw w16.heap.size 0),(8,pw i_ 0)]) ?_ ?_ ?_ ?_
 ·rintro lp_ pre_ M_ x_ W_ hlp_ hws_ ⟨hk4_,hk5_,hk6_,hk7_,hm7_,hok_,hM_,hBw_⟩ hpx_ hlen_
  refine XI_keep [0,4,5,6,7,12,13,14] [(0,pw gm 0),(4,pw w.heap.size 0),(5,pw w1.heap.size 0),(6,pw w6.heap.size 0),(7,pw w16.heap.size 0),(12,pw gm 0),(13,.func (.func 55) #[] #[pw g39 0]),(14,.agg #[sT x_.1,i6 x_.2.1,i6 x_.2.2])] (by kernel_rfl) ?_
  refine XI_region (by kernel_rfl) (fun _ _ h_=>h_) ?_
  refine xwe 1 [] [(0,pw gm 0),(4,pw w.heap.size 0),(5,pw w1.heap.size 0),(6,pw w6.heap.size 0),(7,pw w16.heap.size 0),(8,pw W_.heap.size 0),(14,.agg #[sT x_.1,i6 x_.2.1,i6 x_.2.2])] (W_.alloc (.cells #[s0,i6 0,i6 0] 31)) [] trivial ?_
  obtain⟨w49,w53,b50,k51,z52⟩:=new_world W_ #[s0,i6 0,i6 0] 31
  rw[w53]
  refine xst (.agg #[sT x_.1,i6 x_.2.1,i6 x_.2.2]) k51 0 #[sT x_.1,i6 x_.2.1,i6 x_.2.2] (fun w54 g55 k56 z57=>?_)
  have hne58:w.heap.size≠W_.heap.size:=Blk.tne (Blk.below hk4_ b50) k51 rfl
  have k59:=Blk.other (Blk.below hk4_ b50) g55 hne58
  have hne60:w1.heap.size≠W_.heap.size:=Blk.tne (Blk.below hk5_ b50) k51 rfl
  have k61:=Blk.other (Blk.below hk5_ b50) g55 hne60
  have hne62:w6.heap.size≠W_.heap.size:=Blk.tne (Blk.below hk6_ b50) k51 rfl
  have k63:=Blk.other (Blk.below hk6_ b50) g55 hne62
  have hne64:w16.heap.size≠W_.heap.size:=Blk.tne (Blk.below hk7_ b50) k51 rfl
  have k65:=Blk.other (Blk.below hk7_ b50) g55 hne64
  refine nl ?_
  have hDw_:∀ k_,(DI w.heap.size w26.heap.size w46.heap.size) k_→k_<W_.heap.size:=fun k_ h_=>by have:=hDt_ k_ h_; omega
  exact⟨W_.heap.size,by kernel_rfl,(KeepsFrom.trans (keeps_below b50) (keeps_store k51 g55)),KpM.below hDw_ ((bg b50 g55 (Nat.le_refl _)):Below W_.heap.size W_ w54),⟨k59,k61,k63,k65,(MapL.below hm7_ (bg b50 g55 (Nat.le_refl _))),hok_,hM_,(bg (bt hBw_ b50) g55 (hBw_).size)⟩,⟨k56,hpx_⟩⟩
 ·rintro lp_ pre_ M_ x_ i_ W_ hlp_ hws_ ⟨hk4_,hk5_,hk6_,hk7_,hm7_,hok_,hM_,hBw_⟩ ⟨hk8_,hpx_⟩ hlen_
  have hsl_:(pre_++[x_]).length=pre_.length+1:=by simp
  have hfl_:=mvF_len xs au pre_
  have hkx_:=hks x_ hpx_
  refine XI_block ?_
  refine XI_seq ?_
  refine XI_region (by kernel_rfl) (fun _ _ h_=>h_) ?_
  refine xwe 6 [(16,.load (pw d 0)),(18,.load (i6 x_.2.1)),(20,.load (i6 x_.2.2))] [(5,pw w1.heap.size 0),(6,pw w6.heap.size 0),(7,pw w16.heap.size 0),(8,pw i_ 0),(16,pw d 0),(21,.slice (some ⟨W_.heap.size,0,none⟩) 2 2)] (W_.alloc (.cells #[i6 x_.2.1,i6 x_.2.2] 3)) [_,_,_] ⟨lc 39 hk4_ 0,lc 3 hk8_ 1,lc 3 hk8_ 2,trivial⟩ ?_
  obtain⟨w68,w72,b69,k70,z71⟩:=new_world W_ #[i6 x_.2.1,i6 x_.2.2] 3
  rw[w72]
  refine xr 4 [(23,.load (sT x_.1)),(24,.load (sT au))] [(25,.bool (x_.1.toList==au.toList))] [5] [_,_] ⟨lc 9 (Blk.below hk8_ b69) 0,lc 9 (Blk.below hk5_ b69) 0,trivial⟩ ?_
  have r80:=Kd.R_litB (Kd.int .i64) (W:=W_) (e:=3) (cs:=#[i6 x_.2.1,i6 x_.2.2]) [x_.2.1,x_.2.2] k70 (repsInt [x_.2.1,x_.2.2]) (Nat.le_of_ble_eq_true (by kernel_rfl))
  refine xc 35 ent35 [pw d 0,.slice (some ⟨W_.heap.size,0,none⟩) 2 2,.bool (x_.1.toList==au.toList)] (plist2 d xs _ _ x_.2.1 x_.2.2 (x_.1.toList==au.toList) _ (hd.below (bt hBw_ b69)) hb hnx hz (Kd.R_C r80) (hT.below (bt hBw_ b69)) es (hE.below (bt hBw_ b69))) ?_
  rintro e w73 ⟨b74,⟨A75,c76,rfl,y77,r78⟩|⟨n79,y77,rfl,r78⟩⟩
  ·refine⟨_,rfl,?_⟩
   have hyes_:mvOk xs au x_:=y77
   refine xr0 5 [(9,.slice A75 2 c76),(10,.nilIface)] [16,21,25,26] ?_
   refine nl (XI_seq ?_)
   refine XI_seq ?_
   refine XI_region (by kernel_rfl) (fun _ _ h_=>h_) ?_
   refine xr0 2 [(30,bF)] [10] ?_
   refine nl (XI_cond false rfl ?_)
   refine XI_skip ?_
   refine XI_any (by kernel_rfl) (fun _ _ h_=>h_) [12] 13 (tf 0 13) (by kernel_rfl) (by kernel_rfl) (by kernel_rfl) (fun wd81 b82 h83=>?_)
   refine XA_runC (fuel':=7) [0,1,2,3,4,5] [(32,.load (.map (some w11.heap.size))),(34,.load (sT x_.1)),(36,.load (sT x_.1))] [.map (some w11.heap.size),pw i_ 0,sT x_.1,pw i_ 0,sT x_.1,.slice A75 2 c76] (tf 6 7) [(32,.map (some w11.heap.size)),(34,sT x_.1),(36,sT x_.1),(37,.slice A75 2 c76)] [8,30] [la 71 (⟨w16.heap.size,0,none⟩) (.map (some w11.heap.size)) wd81,la 9 (⟨i_,0,none⟩) (sT x_.1) wd81,la 9 (⟨i_,0,none⟩) (sT x_.1) wd81] ⟨loads1 rfl (Blk.cell (Blk.below hk7_ (bt (bt b69 b74) b82)) 0 _ rfl),loads1 rfl (Blk.cell (Blk.below hk8_ (bt (bt b69 b74) b82)) 0 _ rfl),loads1 rfl (Blk.cell (Blk.below hk8_ (bt (bt b69 b74) b82)) 0 _ rfl),trivial⟩ ?_
   obtain⟨ad84,a85,c86⟩:=Kd.atI (Kd.R_C (Kd.R_below r78 b82)) (i:=(0:Int)) (by omega) (by omega)
   refine XA_runC (fuel':=4) [6,7,8] [(38,.idx ad84),(39,.load (i6 (rd ([(plE xs x_.2.1 (x_.1.toList==au.toList)).1,(plE xs x_.2.2 (x_.1.toList==au.toList)).1]) (0:Int))))] [.pointer (some (ad84.add ((0:Int).toNat*1))),i6 (rd ([(plE xs x_.2.1 (x_.1.toList==au.toList)).1,(plE xs x_.2.2 (x_.1.toList==au.toList)).1]) (0:Int)),.slice A75 2 c76] (tf 9 4) [(39,i6 (rd ([(plE xs x_.2.1 (x_.1.toList==au.toList)).1,(plE xs x_.2.2 (x_.1.toList==au.toList)).1]) (0:Int))),(40,.slice A75 2 c76)] [9,37] [A75=some ad84,(0:Int)≤0,0<(2:Int),la 3 (ad84.add ((0:Int).toNat*1)) (i6 (rd ([(plE xs x_.2.1 (x_.1.toList==au.toList)).1,(plE xs x_.2.2 (x_.1.toList==au.toList)).1]) (0:Int))) wd81] ⟨a85,(by omega),(by omega),loads1 rfl (elem_cell c86 0 _ rfl),trivial⟩ ?_
   obtain⟨ad87,a88,c89⟩:=Kd.atI (Kd.R_C (Kd.R_below r78 b82)) (i:=(1:Int)) (by omega) (by omega)
   refine XA_run (fuel':=1) [9,10,11] [(41,.idx ad87),(42,.load (i6 (rd ([(plE xs x_.2.1 (x_.1.toList==au.toList)).1,(plE xs x_.2.2 (x_.1.toList==au.toList)).1]) (1:Int))))] [.pointer (some (ad87.add ((1:Int).toNat*1))),i6 (rd ([(plE xs x_.2.1 (x_.1.toList==au.toList)).1,(plE xs x_.2.2 (x_.1.toList==au.toList)).1]) (1:Int)),.agg #[sT x_.1,i6 (rd ([(plE xs x_.2.1 (x_.1.toList==au.toList)).1,(plE xs x_.2.2 (x_.1.toList==au.toList)).1]) (0:Int)),i6 (rd ([(plE xs x_.2.1 (x_.1.toList==au.toList)).1,(plE xs x_.2.2 (x_.1.toList==au.toList)).1]) (1:Int))]] (tf 12 1) [(6,pw w6.heap.size 0),(7,pw w16.heap.size 0),(32,.map (some w11.heap.size)),(34,sT x_.1),(43,.agg #[sT x_.1,i6 (rd ([(plE xs x_.2.1 (x_.1.toList==au.toList)).1,(plE xs x_.2.2 (x_.1.toList==au.toList)).1]) (0:Int)),i6 (rd ([(plE xs x_.2.1 (x_.1.toList==au.toList)).1,(plE xs x_.2.2 (x_.1.toList==au.toList)).1]) (1:Int))])] [A75=some ad87,(0:Int)≤1,1<(2:Int),la 3 (ad87.add ((1:Int).toNat*1)) (i6 (rd ([(plE xs x_.2.1 (x_.1.toList==au.toList)).1,(plE xs x_.2.2 (x_.1.toList==au.toList)).1]) (1:Int))) wd81] ⟨a88,(by omega),(by omega),loads1 rfl (elem_cell c89 0 _ rfl),trivial⟩ ?_
   refine XA_act (fuel':=0) 12 (tf 13 0) _ rfl (by kernel_rfl) rfl (by kernel_rfl) rfl ?_
   refine XL_mapPut (B:=w11.heap.size) (key:=sT x_.1) (val:=.agg #[sT x_.1,i6 (rd ([(plE xs x_.2.1 (x_.1.toList==au.toList)).1,(plE xs x_.2.2 (x_.1.toList==au.toList)).1]) (0:Int)),i6 (rd ([(plE xs x_.2.1 (x_.1.toList==au.toList)).1,(plE xs x_.2.2 (x_.1.toList==au.toList)).1]) (1:Int))]) (kl:=mK x_.1) (d:=mD (x_.1,rd ([(plE xs x_.2.1 (x_.1.toList==au.toList)).1,(plE xs x_.2.2 (x_.1.toList==au.toList)).1]) (0:Int),rd ([(plE xs x_.2.1 (x_.1.toList==au.toList)).1,(plE xs x_.2.2 (x_.1.toList==au.toList)).1]) (1:Int))) (ps:=[]) rfl rfl rfl (Maps.string_keyed Tryz.underlying9) Tryz.underlying71 (by kernel_rfl) (MapL.below hm7_ (bt (bt b69 b74) b82)) (by rw[mL_len]; unfold maxLen; omega) (keyS (by omega)) rfl (fun w90 g91 M92=>?_)
   rw[mput_key (MapL.risM (MapL.below hm7_ (bt (bt b69 b74) b82)) (Maps.string_keyed Tryz.underlying9)) (x_.1,rd ([(plE xs x_.2.1 (x_.1.toList==au.toList)).1,(plE xs x_.2.2 (x_.1.toList==au.toList)).1]) (0:Int),rd ([(plE xs x_.2.1 (x_.1.toList==au.toList)).1,(plE xs x_.2.2 (x_.1.toList==au.toList)).1]) (1:Int))]at M92
   have k93:=MapL.blk (MapL.below hm7_ (bt (bt b69 b74) b82)) (Blk.below hk4_ (bt (bt b69 b74) b82)) g91
   have k94:=MapL.blk (MapL.below hm7_ (bt (bt b69 b74) b82)) (Blk.below hk5_ (bt (bt b69 b74) b82)) g91
   have k95:=MapL.blk (MapL.below hm7_ (bt (bt b69 b74) b82)) (Blk.below hk6_ (bt (bt b69 b74) b82)) g91
   have k96:=MapL.blk (MapL.below hm7_ (bt (bt b69 b74) b82)) (Blk.below hk7_ (bt (bt b69 b74) b82)) g91
   refine nl (XA_done (by kernel_rfl) ?_)
   have hDw_:∀ k_,(DI w.heap.size w26.heap.size w46.heap.size) k_→k_<W_.heap.size:=fun k_ h_=>by have:=hDt_ k_ h_; omega
   have B102:Below w.heap.size w w90:=(bg (bt (bt (bt hBw_ b69) b74) b82) g91 ((bt (bt b2 b7) b12)).size)
   exact⟨(KeepsFrom.trans (KeepsFrom.trans (KeepsFrom.trans (keeps_below b69) (keeps_below b74)) (keeps_below b82)) (keeps_map hB7W_ g91)),M_,(KpM.trans (KpM.trans (KpM.trans (KpM.below (fun k_ h_=>Nat.lt_of_lt_of_le (hDw_ k_ h_) (Nat.le_refl _)) b69) (KpM.below (fun k_ h_=>Nat.lt_of_lt_of_le (hDw_ k_ h_) b69.size) b74)) (KpM.below (fun k_ h_=>Nat.lt_of_lt_of_le (hDw_ k_ h_) (Nat.le_trans b69.size b74.size)) b82)) (KpM.mapw g91 (by rw[hM_]) (fun h_=>by rcases h_ with h_|h_<;>omega) (fun k_ h_=>Nat.lt_of_lt_of_le (hDw_ k_ h_) (Nat.le_trans (Nat.le_trans b69.size b74.size) b82.size)))),fun k_ h_=>.inl h_,k93,k94,k95,k96,by rw[mvF_snoc]; exact M92,fun y_ hy_=>by rcases List.mem_append.1 hy_ with h_|h_; (· exact hok_ y_ h_); (· rw[List.mem_singleton.1 h_]; exact hyes_),hM_,B102⟩
  refine⟨_,rfl,?_⟩
  have hno_:¬mvOk xs au x_:=r78
  rw[errV_pos es n79 y77]
  refine xr0 5 [(9,.slice none 0 0),(10,.iface 208 (.pointer (some (errAt es n79))))] [16,21,25,26] ?_
  refine nl (XI_seq ?_)
  refine XI_seq ?_
  refine XI_region (by kernel_rfl) (fun _ _ h_=>h_) ?_
  refine xr0 2 [(30,bT)] [10] ?_
  refine nl (XI_cond true rfl ?_)
  refine XI_seq ?_
  refine XI_region (by kernel_rfl) (fun _ _ h_=>h_) ?_
  refine xr 1 [(31,.load (.iface 208 (.pointer (some (errAt es 11)))))] [(31,.iface 208 (.pointer (some (errAt es 11))))] [7,8,9,30] [la 45 (⟨3,0,none⟩) (.iface 208 (.pointer (some (errAt es 11)))) w73] ⟨loads1 rfl (((bt (bt hBw_ b69) b74).cell (World.block_lt_of_cell? _ _ (hE.load 11 3 (by decide) (by decide) rfl))).trans (hE.load 11 3 (by decide) (by decide) rfl)),trivial⟩ ?_
  refine xst (.iface 208 (.pointer (some (errAt es 11)))) (Blk.below hk6_ (bt b69 b74)) 0 #[.iface 208 (.pointer (some (errAt es 11)))] (fun w103 g104 k105 z106=>?_)
  refine nl (XI_ret ?_)
  have B120:Below w.heap.size w w103:=(bg (bt (bt hBw_ b69) b74) g104 ((bt b2 b7)).size)
  exact⟨(KeepsFrom.trans (KeepsFrom.trans (keeps_below b69) (keeps_below b74)) (keeps_store (Blk.below hk6_ (bt b69 b74)) g104)),rfl,⟨pre_,x_,rfl,hno_⟩,k105,B120⟩
 ·rintro D122 pre_ M_ w121 D123 S124 ⟨hk4_,hk5_,hk6_,hk7_,hm7_,hok_,hM_,hBw_⟩ K125
  rw[show pre_=ms from S124]at hm7_ hok_
  have hds_:Defs (D122::[]) w121:=Defs.cons K125 (fun _ h_=>by cases h_)
  have hdge_:∀ D_∈D122::[],w46.heap.size≤D_:=fun D_ hm_=>(List.mem_cons.1 hm_).elim (fun e_=>by omega) (fun h_=>by cases h_)
  refine sg (xe1 4 [(45,.load (.map (some w11.heap.size)))] [(6,pw w6.heap.size 0),(45,.map (some w11.heap.size)),(47,pw gm 0),(1000000,encD (D122::[]))] (lc 71 hk7_ 0) ?_)
  refine xst (.map (some w11.heap.size)) (Blk.below hk hBw_) 0 #[.map (some w11.heap.size)] (fun w126 g127 k128 z129=>?_)
  have hne134:w6.heap.size≠gm:=Blk.tne hk6_ (Blk.below hk hBw_) rfl
  have k135:=Blk.other hk6_ g127 hne134
  refine nl (sg (xst (.nilIface) k135 0 #[.nilIface] (fun w138 g139 k140 z141=>?_)))
  have hne148:gm≠w6.heap.size:=Blk.tne k128 k135 rfl
  have k149:=Blk.other k128 g139 hne148
  refine nl (X_ret (RX.retM_cell (P:=Tryz.prog) (fn:=Tryz.f16) (N:=48) (R:=R_) (c:=6) (t:=45) (p:=⟨w6.heap.size,0,none⟩) (v:=.nilIface) (ds:=(D122::[])) (dsOf_enc (by kernel_rfl)) (List.nodup_cons.2 ⟨fun h_=>(by cases h_),List.nodup_nil⟩) (Defs.store k135 g139 (Defs.store (Blk.below hk hBw_) g127 hds_)) rfl rfl k140 (fun w_ hb_=>loads1 rfl (Blk.cell hb_ 0 _ rfl)) (fun w_ ho_=>hR_ _ _ ?_)))
  have hal_:∀ m_∈ms,mvOk xs au m_:=hok_
  rw[show mvE xs au ms=0 from if_pos hal_,show mvMs xs au ms=ms.map (mvMk xs au)from if_pos hal_,errV_zero,←mvF_all hRis_]
  exact⟨rfl,Off.chg ho_ (Chg.trans (Chg.trans (Chg.trans (Chg.refl (· =gm) w) (Chg.below (S:=(· =gm)) hBw_) (fun _ _ h_=>h_)) (Chg.grown (S:=(· =gm)) g127 (fun k_ e_=>(Option.some.inj e_).symm)) (fun _ _ h_=>h_)) (Chg.grown (S:=(· =w6.heap.size)) g139 (fun k_ e_=>(Option.some.inj e_).symm)) (fun g_ h1_ h2_=>absurd h1_ (by subst h2_; exact Nat.not_lt.2 ((bt b2 b7)).size))) (fun D_ hm_=>Nat.le_trans ((bt B45 b47)).size (hdge_ D_ hm_)),w11.heap.size,Off.blk ho_ (Defs.store k135 g139 (Defs.store (Blk.below hk hBw_) g127 hds_)) k149,Off.map ho_ (Defs.store k135 g139 (Defs.store (Blk.below hk hBw_) g127 hds_)) (MapL.kept (MapL.kept hm7_ g127 (fun e_=>by have h1_:=hk.lt; have h2_:=Option.some.inj e_; omega)) g139 (fun e_=>by have h1_:=hk.lt; have h2_:=Option.some.inj e_; omega)),.inr hB7w_⟩
 rintro D151 c_ pre_ w150 D152 S153 hix_ K154
 have hno9_:=MvX.no hix_ S153.1
 obtain⟨rfl,_,hk6_,hBw_⟩:=hix_
 have htr_:=True.intro
 have hds_:Defs (D151::[]) w150:=Defs.cons K154 (fun _ h_=>by cases h_)
 have hdge_:∀ D_∈D151::[],w46.heap.size≤D_:=fun D_ hm_=>(List.mem_cons.1 hm_).elim (fun e_=>by omega) (fun h_=>by cases h_)
 refine X_ret (RX.retM_cell (P:=Tryz.prog) (fn:=Tryz.f16) (N:=48) (R:=R_) (c:=6) (t:=45) (p:=⟨w6.heap.size,0,none⟩) (v:=.iface 208 (.pointer (some (errAt es 11)))) (ds:=(D151::[])) (dsOf_enc (by kernel_rfl)) (List.nodup_cons.2 ⟨fun h_=>(by cases h_),List.nodup_nil⟩) hds_ rfl rfl hk6_ (fun w_ hb_=>loads1 rfl (Blk.cell hb_ 0 _ rfl)) (fun w_ ho_=>hR_ _ _ ?_))
 rw[show mvE xs au ms=11 from if_neg hno9_,show mvMs xs au ms=ms from if_neg hno9_,errV_pos es 11 (by decide)]
 exact⟨rfl,Off.chg ho_ (Chg.trans (Chg.refl (· =gm) w) (Chg.below (S:=(· =gm)) hBw_) (fun _ _ h_=>h_)) (fun D_ hm_=>Nat.le_trans ((bt B45 b47)).size (hdge_ D_ hm_)),B,Off.blk ho_ hds_ (Blk.below hk hBw_),Off.map ho_ hds_ (MapL.below hM hBw_),.inl rfl⟩
end Go.Proofs.YtlnnjfdonilgmaaGreatDoor
