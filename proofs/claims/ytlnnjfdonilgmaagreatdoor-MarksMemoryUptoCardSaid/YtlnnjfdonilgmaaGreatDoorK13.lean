import Derived.Test.YtlnnjfdonilgmaaGreatDoorK12
/- MarksMemory returns true. Conditions: sizes, the tables of utf8, the errors' variables. -/
set_option linter.unusedVariables false
set_option linter.unusedSimpArgs false
set_option maxRecDepth 100000
namespace Go.Proofs.YtlnnjfdonilgmaaGreatDoor
open Go Go.RowKit Go.Proofs.YtlnnjfdonilgmaaGreatDoorW.PrintWords RX
set_option maxHeartbeats 4000000 in
theorem marksMemory_law (A:Option Addr)(c:Nat)(xs:List MOp)(stop:Int)(wB:World)(hx:kMOp.C wB A xs.length xs)(hn:xs.length≤1048576)(hz:∀ i,i<xs.length→mopSz (xs.getD i mop0))(hT:Tabs wB)(es:List Addr)(hE9:Errs wB es):
  Calls Tryz.prog 6 #[.slice A xs.length c,i6 stop] wB fun e w'=>e=.returned bT∧Below wB.heap.size wB w':=by
 have hE:ErrsM wB es:=hE9.on (by decide)
 refine RX.enterM Tryz.func6 rfl 128 rfl [(0,aL A xs c),(1,i6 stop)] rfl (by kernel_rfl) (fun R_ hR_=>?_)
 refine RX.X_mark0 rfl ?_
 refine sg (xwe 1 [] [(0,aL A xs c),(3,pw wB.heap.size 0),(1000000,encD [])] (wB.alloc (.cells #[i6 stop] 3)) [] trivial ?_)
 obtain⟨w1,w5,b2,k3,z4⟩:=new_world wB #[i6 stop] 3
 rw[w5]
 refine xw 1 [] [(4,pw w1.heap.size 0)] [] (w1.alloc (.cells #[bF] 4)) [] trivial ?_
 obtain⟨w_6,w10,b7,k8,z9⟩:=new_world w1 #[bF] 4
 rw[w10]
 refine nl (sq (sg (xc 7 ent7 [] (fixed23_any _ (hT.below (bt b2 b7)) es (hE.below (bt b2 b7))) ?_)))
 rintro e w11 ⟨rfl,b12⟩; refine⟨_,rfl,?_⟩
 refine xr0 1 [(17,bF)] [16] ?_
 refine nl (cf (sk (sg (xc 8 ent8 [] (MI.new _) ?_))))
 rintro e w17 ⟨g13,Q14,rfl,M15,b16⟩; refine⟨_,rfl,?_⟩
 have M18:MI g13 wB.heap.size [] Q14 w17:=MI.low M15 ((bt (bt b2 b7) b12)).size
 have hno19:¬Q14 wB.heap.size:=fun h_=>absurd (Nat.lt_of_lt_of_le (Blk.lt k3) ((bt b7 b12)).size) (Nat.not_lt.2 (M15.lt _ h_).1)
 have hno20:¬Q14 w1.heap.size:=fun h_=>absurd (Nat.lt_of_lt_of_le (Blk.lt k8) (b12).size) (Nat.not_lt.2 (M15.lt _ h_).1)
 refine xw 2 [] [(18,pw g13 0),(20,pw w17.heap.size 0)] [17] (w17.alloc (.cells #[.slice none 0 0] 29)) [] trivial ?_
 obtain⟨w21,w25,b22,k23,z24⟩:=new_world w17 #[.slice none 0 0] 29
 rw[w25]
 refine xr0 2 [(5,pw g13 0),(6,pw w17.heap.size 0)] [18,20] ?_
 refine nl (sq (sg (xr0 2 [(22,bF)] [] ?_)))
 refine nl (cf (sk (sq (sg (xe0 3 [(3,pw wB.heap.size 0),(4,pw w1.heap.size 0),(5,pw g13 0),(6,pw w17.heap.size 0),(23,aL A xs c),(24,i6 (xs.length:Int)),(25,i6 0),(1000000,encD [])] ?_)))))
 refine nl (X_block ?_)
 have B27:Below wB.heap.size wB w21:=(bt (bt (bt (bt b2 b7) b12) b16) b22)
 have P26:=PI.mk0 (M18.below b22) k23 ((bt (bt (bt b2 b7) b12) b16)).size (B27).size (fun h_=>absurd (M18.lt _ h_).2 (Nat.not_lt.2 (Nat.le_refl _)))
 have hno28:¬(fun k=>Q14 k∨k=w17.heap.size) wB.heap.size:=fun h_=>h_.elim hno19 (fun e_=>absurd e_ (Nat.ne_of_lt (Nat.lt_of_lt_of_le (Blk.lt k3) ((bt (bt b7 b12) b16)).size)))
 have hno29:¬(fun k=>Q14 k∨k=w17.heap.size) w1.heap.size:=fun h_=>h_.elim hno20 (fun e_=>absurd e_ (Nat.ne_of_lt (Nat.lt_of_lt_of_le (Blk.lt k8) ((bt b12 b16)).size)))
 refine X_loop (ι:=Nat×List MarkA×(Nat→Prop)) (fun⟨i,ms_,Q_⟩=>[(3,pw wB.heap.size 0),(4,pw w1.heap.size 0),(5,pw g13 0),(6,pw w17.heap.size 0),(23,aL A xs c),(24,i6 (xs.length:Int)),(25,i6 (i:Int)),(1000000,encD [])]) (fun⟨i,ms_,Q_⟩ wl=>i≤xs.length∧PI g13 w17.heap.size wB ms_ Q_ wl∧¬Q_ wB.heap.size∧¬Q_ w1.heap.size∧RX.Blk wl wB.heap.size 3 #[i6 stop]∧RX.Blk wl w1.heap.size 4 #[bF]∧Below wB.heap.size wB wl) (fun⟨i,ms_,Q_⟩=>xs.length-i) (0,[],(fun k=>Q14 k∨k=w17.heap.size)) ⟨Nat.zero_le _,P26,hno28,hno29,(Blk.below k3 (bt (bt (bt b7 b12) b16) b22)),(Blk.below k8 (bt (bt b12 b16) b22)),B27⟩ (by kernel_rfl) ?_
 rintro⟨i,ms_,Q_⟩ wl ⟨hi,hP1_,hn3_,hn4_,hk3_,hk4_,HB⟩
 refine sq (X_region ?_)
 by_cases c30:(i:Int)<(xs.length:Int)
 ·refine xr1 1 [(26,.eq bT)] [(26,bT)] [] (dT c30) ?_
  refine nl (sq (ct (sk (sq (bk (sq (X_region ?_)))))))
  obtain⟨ad31,B34,c35,a32,c33,l36,C37⟩:=Kd.atMOp hx (i:=(i:Int)) (by omega) (by omega)
  replace c33:CellsAt wl (ad31.add ((i:Int).toNat*7)) [i6 ((xs.getD i mop0).kind),.bool ((xs.getD i mop0).second),sT ((xs.getD i mop0).mark.1),i6 ((xs.getD i mop0).mark.2.1),i6 ((xs.getD i mop0).mark.2.2),i6 ((xs.getD i mop0).cells),aL B34 (xs.getD i mop0).ops c35]:=cells_below c33 HB
  replace l36:(xs.getD i mop0).ops.length≤c35:=l36
  replace C37:kOp.C wB B34 (xs.getD i mop0).ops.length (xs.getD i mop0).ops:=C37
  refine xw 3 [(27,.idx ad31),(28,.load (.agg #[i6 ((xs.getD i mop0).kind),.bool ((xs.getD i mop0).second),sT ((xs.getD i mop0).mark.1),i6 ((xs.getD i mop0).mark.2.1),i6 ((xs.getD i mop0).mark.2.2),i6 ((xs.getD i mop0).cells),aL B34 (xs.getD i mop0).ops c35]))] [(8,pw wl.heap.size 0),(28,.agg #[i6 ((xs.getD i mop0).kind),.bool ((xs.getD i mop0).second),sT ((xs.getD i mop0).mark.1),i6 ((xs.getD i mop0).mark.2.1),i6 ((xs.getD i mop0).mark.2.2),i6 ((xs.getD i mop0).cells),aL B34 (xs.getD i mop0).ops c35])] [26] (wl.alloc (.cells #[i6 0,bF,s0,i6 0,i6 0,i6 0,.slice none 0 0] 34)) [A=some ad31,(0:Int)≤(i:Int),(i:Int)<(xs.length:Int),la 34 (ad31.add ((i:Int).toNat*7)) (.agg #[i6 ((xs.getD i mop0).kind),.bool ((xs.getD i mop0).second),sT ((xs.getD i mop0).mark.1),i6 ((xs.getD i mop0).mark.2.1),i6 ((xs.getD i mop0).mark.2.2),i6 ((xs.getD i mop0).cells),aL B34 (xs.getD i mop0).ops c35]) wl] ⟨a32,(by omega),(by omega),loadsE rfl rfl c33 0 ⟨by kernel_rfl,by kernel_rfl⟩,trivial⟩ ?_
  obtain⟨w38,w42,b39,k40,z41⟩:=new_world wl #[i6 0,bF,s0,i6 0,i6 0,i6 0,.slice none 0 0] 34
  rw[w42]
  refine xst (.agg #[i6 ((xs.getD i mop0).kind),.bool ((xs.getD i mop0).second),sT ((xs.getD i mop0).mark.1),i6 ((xs.getD i mop0).mark.2.1),i6 ((xs.getD i mop0).mark.2.2),i6 ((xs.getD i mop0).cells),aL B34 (xs.getD i mop0).ops c35]) k40 0 #[i6 ((xs.getD i mop0).kind),.bool ((xs.getD i mop0).second),sT ((xs.getD i mop0).mark.1),i6 ((xs.getD i mop0).mark.2.1),i6 ((xs.getD i mop0).mark.2.2),i6 ((xs.getD i mop0).cells),aL B34 (xs.getD i mop0).ops c35] (fun w43 g44 k45 z46=>?_)
  have hne47:wB.heap.size≠wl.heap.size:=Blk.tne (Blk.below hk3_ b39) k40 rfl
  have k48:=Blk.other (Blk.below hk3_ b39) g44 hne47
  have hne49:w1.heap.size≠wl.heap.size:=Blk.tne (Blk.below hk4_ b39) k40 rfl
  have k50:=Blk.other (Blk.below hk4_ b39) g44 hne49
  refine nl (sg (xr 3 [(31,.load (.agg #[i6 ((xs.getD i mop0).kind),.bool ((xs.getD i mop0).second),sT ((xs.getD i mop0).mark.1),i6 ((xs.getD i mop0).mark.2.1),i6 ((xs.getD i mop0).mark.2.2),i6 ((xs.getD i mop0).cells),aL B34 (xs.getD i mop0).ops c35]))] [(29,pw g13 0),(30,pw w17.heap.size 0),(31,.agg #[i6 ((xs.getD i mop0).kind),.bool ((xs.getD i mop0).second),sT ((xs.getD i mop0).mark.1),i6 ((xs.getD i mop0).mark.2.1),i6 ((xs.getD i mop0).mark.2.2),i6 ((xs.getD i mop0).cells),aL B34 (xs.getD i mop0).ops c35])] [8,28] [la 34 (⟨wl.heap.size,0,none⟩) (.agg #[i6 ((xs.getD i mop0).kind),.bool ((xs.getD i mop0).second),sT ((xs.getD i mop0).mark.1),i6 ((xs.getD i mop0).mark.2.1),i6 ((xs.getD i mop0).mark.2.2),i6 ((xs.getD i mop0).cells),aL B34 (xs.getD i mop0).ops c35]) w43] ⟨loadsB rfl rfl k45 0 ⟨by kernel_rfl,by kernel_rfl⟩,trivial⟩ ?_))
  have O57:=(hP1_.below (bg b39 g44 (Nat.le_refl _)))
  refine xc 9 ent9 [pw g13 0,pw w17.heap.size 0,.agg #[i6 ((xs.getD i mop0).kind),.bool ((xs.getD i mop0).second),sT ((xs.getD i mop0).mark.1),i6 ((xs.getD i mop0).mark.2.1),i6 ((xs.getD i mop0).mark.2.2),i6 ((xs.getD i mop0).cells),aL B34 (xs.getD i mop0).ops c35]] (O57.step (xs.getD i mop0) _ _ (bg (bt HB b39) g44 (HB).size) C37 l36 (hz _ (by omega)) hT es hE9) ?_
  rintro e w52 ⟨rfl,ms51,Q55,M53,N56,C54⟩; refine⟨_,rfl,?_⟩
  have hlo58:Below wB.heap.size w43 w52:=C54.lo ((bg (bt HB b39) g44 (HB).size)).size (fun g_ h_=>(O57.lt g_ h_).1)
  have k59:=C54.blk k48 hn3_
  have hno60:¬Q55 wB.heap.size:=N56.no hn3_ (Blk.lt k48)
  have k61:=C54.blk k50 hn4_
  have hno62:¬Q55 w1.heap.size:=N56.no hn4_ (Blk.lt k50)
  have hno64:¬Q55 wl.heap.size:=N56.no (fun h_=>absurd (hP1_.lt _ h_).2 (Nat.not_lt.2 (Nat.le_refl _))) (Blk.lt k45)
  refine xr0 1 [(33,bF)] [29,30,31,32] ?_
  refine nl (cf (sk (rg (xr1 2 [(34,.eq (i6 ((i:Int)+1)))] [(25,i6 ((i:Int)+1))] [33] (w6 ((i:Int)+1)) ?_))))
  refine nl ?_
  have B65:Below wB.heap.size wB w52:=(Below.trans (bg (bt HB b39) g44 (HB).size) hlo58)
  refine⟨(i+1,ms51,Q55),by kernel_rfl,?_,?_⟩
  ·exact⟨by omega,M53,hno60,hno62,k59,k61,B65⟩
  (try dsimp only); omega
 refine xr1 1 [(26,.eq bF)] [(26,bF)] [] (dF c30) ?_
 refine nl (sq (cf (X_exit (sq (X_region ?_)))))
 obtain⟨Qm_,Qr_,hM_,hR_q,hd_,rfl⟩:=hP1_
 have hnm_:=hM_.nm
 have hmn_:=hM_.n
 have hnm3_:¬Qm_ wB.heap.size:=fun h_=>hn3_ (.inl h_)
 have hnm4_:¬Qm_ w1.heap.size:=fun h_=>hn4_ (.inl h_)
 obtain⟨A8_,c8_,hk8_,hr8_,_,_,_⟩:=id hR_q
 refine xw 1 [] [(35,.slice (some ⟨wl.heap.size,0,none⟩) 0 0)] [23,24,25,26] (wl.alloc (.cells #[] 31)) [] trivial ?_
 obtain⟨w66,w70,b67,k68,z69⟩:=new_world wl #[] 31
 rw[w70]
 refine xr1 4 [(39,.load (aL A8_ ms_ c8_))] [(39,aL A8_ ms_ c8_)] [] (lc 27 (Blk.below hk8_ b67) 0) ?_
 have r71:=Kd.R_litB kMark (W:=wl) (e:=31) (cs:=#[]) [] k68 (repsMark []) (Nat.le_of_ble_eq_true (by kernel_rfl))
 refine XL_appendAll (c':=c8_) kMark rfl rfl rfl wl.heap.size 31 (.agg #[s0,i6 0,i6 0]) 32 Tryz.underlying27 info31 rfl (by decide) (by omega) ([]) ms_ (by kernel_rfl) r71 (Kd.C_below (Kd.R_C hr8_) b67) kMark_KM (b67).size (by first|omega|(simp; omega)) ?_
 intro A72 c73 w74 r75 c76 g77 l78 a79
 have hne80:=RX.Kd.R_blk_ne r71 (Blk.below hk3_ b67) rfl
 have k81:=Blk.ne (Blk.below hk3_ b67) g77 hne80
 have hne82:=RX.Kd.R_blk_ne r71 (Blk.below hk4_ b67) rfl
 have k83:=Blk.ne (Blk.below hk4_ b67) g77 hne82
 have e86:([]++ms_)=ms_:=List.nil_append _
 rw[e86]at r75 ⊢
 refine xw 1 [] [(9,pw w74.heap.size 0),(40,aL A72 ms_ c73)] [35,39] (w74.alloc (.cells #[.slice none 0 0] 27)) [] trivial ?_
 obtain⟨w87,w91,b88,k89,z90⟩:=new_world w74 #[.slice none 0 0] 27
 rw[w91]
 refine xst (aL A72 ms_ c73) k89 0 #[aL A72 ms_ c73] (fun w92 g93 k94 z95=>?_)
 have hne96:wB.heap.size≠w74.heap.size:=Blk.tne (Blk.below k81 b88) k89 rfl
 have k97:=Blk.other (Blk.below k81 b88) g93 hne96
 have hne98:w1.heap.size≠w74.heap.size:=Blk.tne (Blk.below k83 b88) k89 rfl
 have k99:=Blk.other (Blk.below k83 b88) g93 hne98
 have r102:=Kd.R_off (Kd.R_below r75 b88) k89 (by decide) g93
 refine nl (sg (xr0 1 [(41,pw g13 0)] [40] ?_))
 have B109:Below wl.heap.size wl w92:=(bg (bt (bgo b67 g77 l78 (Nat.le_refl _)) b88) g93 ((bgo b67 g77 l78 (Nat.le_refl _))).size)
 refine xc 24 ent24 [pw g13 0] ((hM_.below B109).iter) ?_
 rintro e w110 ⟨g103,A104,c105,rfl,hge106,k107,r108,b111⟩; refine⟨_,rfl,?_⟩
 have hr9_:kMark.R 31 w110 w92.heap.size (fun k_=>w92.heap.size≤k_∧k_<w110.heap.size) (aL A104 ms_ c105) ms_:=Kd.R_mono (Kd.R_bound r108) (fun k_ hk_=>⟨hk_.2.1,hk_.2.2.1⟩)
 have hno112:¬Qm_ g103:=fun h_=>absurd (hM_.lt _ h_).2 (Nat.not_lt.2 (Nat.le_trans (B109).size hge106))
 refine xe0 1 [(3,pw wB.heap.size 0),(4,pw w1.heap.size 0),(5,pw g13 0),(6,pw w17.heap.size 0),(9,pw w74.heap.size 0),(10,.func (.func 55) #[] #[pw g103 0]),(1000000,encD [])] ?_
 refine nl (sq (sg (xr0 2 [(44,bF)] [] ?_)))
 refine nl (cf (sk (sq (sg (xr0 2 [(45,pw g13 0),(46,.agg #[s0,i6 0,i6 0])] [44] ?_)))))
 have B113:Below wB.heap.size wB w74:=(bgo (bt HB b67) g77 l78 (HB).size)
 have B114:Below wB.heap.size wB w110:=(bt (bg (bt (bgo (bt HB b67) g77 l78 (HB).size) b88) g93 (B113).size) b111)
 have O120:=(hM_.below (bt B109 b111))
 refine xc 15 ent15 [pw g13 0,.agg #[s0,i6 0,i6 0],i6 5] (O120.set (ByteArray.empty,0,0) 5 (by decide) (hT.below B114) es (hE.below B114)) ?_
 rintro e w115 ⟨rfl,M116,C117⟩; refine⟨_,rfl,?_⟩
 have hlo121:Below wB.heap.size w110 w115:=C117.lo (B114).size (fun g_ h_=>(O120.lt g_ h_).1)
 have k122:=C117.blk (Blk.below k97 b111) hnm3_
 have k123:=C117.blk (Blk.below k99 b111) hnm4_
 have k124:=C117.blk (Blk.below k94 b111) (fun h_=>absurd (hM_.lt _ h_).2 (Nat.not_lt.2 ((bgo b67 g77 l78 (Nat.le_refl _))).size))
 have hno125:¬Qm_ w74.heap.size:=(fun h_=>absurd (hM_.lt _ h_).2 (Nat.not_lt.2 ((bgo b67 g77 l78 (Nat.le_refl _))).size))
 have k126:=C117.blk k107 hno112
 have O127:=(hR_q.below (bt B109 b111)).far C117 (fun k_ h1_ h2_=>hd_ k_ h2_ h1_)
 have r128:=C117.R (Kd.R_below r102 b111) (fun g_ h1_ h2_=>absurd (hM_.lt g_ h2_).2 (Nat.not_lt.2 (Nat.le_trans (Nat.le_refl _) h1_)))
 have r129:=C117.R hr9_ (fun g_ h1_ h2_=>absurd (hM_.lt g_ h2_).2 (Nat.not_lt.2 (Nat.le_trans (B109).size h1_.1)))
 rw[show sMs ms_ (ByteArray.empty,0,0) 5=ms_ from sMs_no (by rw[bad_empty]; decide)]at M116
 rw[bad_empty,errV_pos es 6 (by decide)]
 refine xr0 4 [(49,bF),(50,pw g13 0),(51,.agg #[sT (⟨#[120]⟩:ByteArray),i6 6,i6 0])] [45,46,47] ?_
 have O135:=M116
 refine xc 15 ent15 [pw g13 0,.agg #[sT (⟨#[120]⟩:ByteArray),i6 6,i6 0],i6 5] (O135.set (⟨#[120]⟩,6,0) 5 (by decide) (hT.below (Below.trans B114 hlo121)) es (hE.below (Below.trans B114 hlo121))) ?_
 rintro e w130 ⟨rfl,M131,C132⟩; refine⟨_,rfl,?_⟩
 have hlo136:Below wB.heap.size w115 w130:=C132.lo ((Below.trans B114 hlo121)).size (fun g_ h_=>(O135.lt g_ h_).1)
 have k137:=C132.blk k122 hnm3_
 have k138:=C132.blk k123 hnm4_
 have k139:=C132.blk k124 hno125
 have k140:=C132.blk k126 hno112
 have O141:=O127.far C132 (fun k_ h1_ h2_=>hd_ k_ h2_ h1_)
 have r142:=C132.R r128 (fun g_ h1_ h2_=>absurd (hM_.lt g_ h2_).2 (Nat.not_lt.2 (Nat.le_trans (Nat.le_refl _) h1_)))
 have r143:=C132.R r129 (fun g_ h1_ h2_=>absurd (hM_.lt g_ h2_).2 (Nat.not_lt.2 (Nat.le_trans (B109).size h1_.1)))
 rw[show sMs ms_ (⟨#[120]⟩,6,0) 5=ms_ from sMs_no (by rw[bad_x]; decide)]at M131
 rw[bad_x,errV_pos es 12 (by decide)]
 refine xr0 4 [(55,bF),(56,pw g13 0)] [49,50,51,52] ?_
 have B144:Below wB.heap.size wB w130:=(Below.trans (Below.trans B114 hlo121) hlo136)
 have O150:=M131
 refine xc 25 ent25 [pw g13 0,sT (⟨#[255]⟩:ByteArray)] (O150.drop ⟨#[255]⟩ (by decide) (hT.below B144) es (hE.below B144)) ?_
 rintro e w145 ⟨rfl,M146,C147⟩; refine⟨_,rfl,?_⟩
 have hlo151:Below wB.heap.size w130 w145:=C147.lo (B144).size (fun g_ h_=>(O150.lt g_ h_).1)
 have k152:=C147.blk k137 hnm3_
 have k153:=C147.blk k138 hnm4_
 have k154:=C147.blk k139 hno125
 have k155:=C147.blk k140 hno112
 have O156:=O141.far C147 (fun k_ h1_ h2_=>hd_ k_ h2_ h1_)
 have r157:=C147.R r142 (fun g_ h1_ h2_=>absurd (hM_.lt g_ h2_).2 (Nat.not_lt.2 (Nat.le_trans (Nat.le_refl _) h1_)))
 have r158:=C147.R r143 (fun g_ h1_ h2_=>absurd (hM_.lt g_ h2_).2 (Nat.not_lt.2 (Nat.le_trans (B109).size h1_.1)))
 rw[show dMs ms_ ⟨#[255]⟩=ms_ from if_neg (bad_ff hnm_)]at M146
 rw[show dCode ms_ ⟨#[255]⟩=16 from if_neg (bad_ff hnm_),errV_pos es 16 (by decide)]
 refine xr0 5 [(60,bF),(61,pw g13 0),(62,pw w17.heap.size 0)] [6,55,56,57] ?_
 refine xc 10 ent10 [pw g13 0,pw w17.heap.size 0] (M146.tells O156) ?_
 rintro e w159 ⟨rfl,b160⟩; refine⟨_,rfl,?_⟩
 refine xe0 2 [(3,pw wB.heap.size 0),(4,pw w1.heap.size 0),(5,pw g13 0),(9,pw w74.heap.size 0),(10,.func (.func 55) #[] #[pw g103 0]),(65,bF),(1000000,encD [])] ?_
 refine nl (cf (sk (sq (sg (xr1 3 [(66,.load (aL A72 ms_ c73))] [(66,aL A72 ms_ c73),(67,i6 (ms_.length:Int)),(68,i6 0)] [65] (lc 27 (Blk.below k154 b160) 0) ?_)))))
 refine nl (X_block ?_)
 have hlow_:wl.heap.size≤wl.heap.size:=(Nat.le_refl _)
 have hlol_:wl.heap.size≤w92.heap.size:=(B109).size
 have hlohi_:w92.heap.size≤w110.heap.size:=(b111).size
 have hhiW_:w110.heap.size≤w159.heap.size:=(Nat.le_trans (Nat.le_trans (Nat.le_trans hlo121.size hlo136.size) hlo151.size) b160.size)
 have hw0W_:wl.heap.size≤w159.heap.size:=(Nat.le_trans (Nat.le_trans (Nat.le_trans (Nat.le_trans (Nat.le_trans (Nat.le_trans (Nat.le_trans (Nat.le_trans b67.size g77.size) b88.size) g93.size) b111.size) hlo121.size) hlo136.size) hlo151.size) b160.size)
 refine X_loop (ι:=Nat) (fun i=>[(3,pw wB.heap.size 0),(4,pw w1.heap.size 0),(5,pw g13 0),(9,pw w74.heap.size 0),(10,.func (.func 55) #[] #[pw g103 0]),(66,aL A72 ms_ c73),(67,i6 (ms_.length:Int)),(68,i6 (i:Int)),(1000000,encD [])]) (fun i wd=>i≤ms_.length∧MI g13 wB.heap.size (ms_.drop i) Qm_ wd∧RX.Blk wd wB.heap.size 3 #[i6 stop]∧RX.Blk wd w1.heap.size 4 #[bF]∧RX.Blk wd w74.heap.size 27 #[aL A72 ms_ c73]∧RX.Blk wd g103 27 #[aL A104 ms_ c105]∧kMark.R 31 wd wl.heap.size (OkFrom wl.heap.size) (aL A72 ms_ c73) ms_∧kMark.R 31 wd w92.heap.size (fun k_=>w92.heap.size≤k_∧k_<w110.heap.size) (aL A104 ms_ c105) ms_∧Below wB.heap.size wB wd∧w159.heap.size≤wd.heap.size) (fun i=>ms_.length-i) 0 ⟨Nat.zero_le _,(M146.below b160),(Blk.below k152 b160),(Blk.below k153 b160),(Blk.below k154 b160),(Blk.below k155 b160),(Kd.R_below r157 b160),(Kd.R_below r158 b160),(bt (Below.trans B144 hlo151) b160),(Nat.le_refl _)⟩ (by kernel_rfl) ?_
 rintro i wd ⟨hi,hMd_,hb0_,hb1_,hb2_,hb3_,hrw_,hri_,HB2_,hWd_⟩
 refine sq (X_region ?_)
 by_cases c161:(i:Int)<(ms_.length:Int)
 ·refine xr1 1 [(69,.eq bT)] [(69,bT)] [] (dT c161) ?_
  refine nl (sq (ct (sk (sq (bk (sq (X_region ?_)))))))
  obtain⟨ad162,a163,c164⟩:=Kd.atMark (Kd.R_C hrw_) (i:=(i:Int)) (by omega) (by omega)
  replace c164:CellsAt wd (ad162.add ((i:Int).toNat*3)) [sT ((ms_.getD i mark0).1),i6 ((ms_.getD i mark0).2.1),i6 ((ms_.getD i mark0).2.2)]:=c164
  refine xw 3 [(70,.idx ad162),(71,.load (.agg #[sT ((ms_.getD i mark0).1),i6 ((ms_.getD i mark0).2.1),i6 ((ms_.getD i mark0).2.2)]))] [(12,pw wd.heap.size 0),(71,.agg #[sT ((ms_.getD i mark0).1),i6 ((ms_.getD i mark0).2.1),i6 ((ms_.getD i mark0).2.2)])] [69] (wd.alloc (.cells #[s0,i6 0,i6 0] 31)) [A72=some ad162,(0:Int)≤(i:Int),(i:Int)<(ms_.length:Int),la 31 (ad162.add ((i:Int).toNat*3)) (.agg #[sT ((ms_.getD i mark0).1),i6 ((ms_.getD i mark0).2.1),i6 ((ms_.getD i mark0).2.2)]) wd] ⟨a163,(by omega),(by omega),loadsE rfl rfl c164 0 ⟨by kernel_rfl,by kernel_rfl⟩,trivial⟩ ?_
  obtain⟨w165,w169,b166,k167,z168⟩:=new_world wd #[s0,i6 0,i6 0] 31
  rw[w169]
  refine xst (.agg #[sT ((ms_.getD i mark0).1),i6 ((ms_.getD i mark0).2.1),i6 ((ms_.getD i mark0).2.2)]) k167 0 #[sT ((ms_.getD i mark0).1),i6 ((ms_.getD i mark0).2.1),i6 ((ms_.getD i mark0).2.2)] (fun w170 g171 k172 z173=>?_)
  have hne174:wB.heap.size≠wd.heap.size:=Blk.tne (Blk.below hb0_ b166) k167 rfl
  have k175:=Blk.other (Blk.below hb0_ b166) g171 hne174
  have hne176:w1.heap.size≠wd.heap.size:=Blk.tne (Blk.below hb1_ b166) k167 rfl
  have k177:=Blk.other (Blk.below hb1_ b166) g171 hne176
  have hne178:w74.heap.size≠wd.heap.size:=Blk.tne (Blk.below hb2_ b166) k167 rfl
  have k179:=Blk.other (Blk.below hb2_ b166) g171 hne178
  have hne180:g103≠wd.heap.size:=Blk.tne (Blk.below hb3_ b166) k167 rfl
  have k181:=Blk.other (Blk.below hb3_ b166) g171 hne180
  refine nl (sg (xr1 3 [(74,.load (sT ((ms_.getD i mark0).1)))] [(72,pw g13 0),(74,sT ((ms_.getD i mark0).1))] [12,71] (lc 9 k172 0) ?_))
  have hdr_:=drop_one (ms:=ms_) (i:=i) (by omega)
  have hks_:(ms_.getD i mark0).1.size≤9223372036854775807:=getD_ks (nm_sz hnm_) i
  have O187:=(hMd_.below (bg b166 g171 (Nat.le_refl _)))
  refine xc 25 ent25 [pw g13 0,sT ((ms_.getD i mark0).1)] (O187.drop (ms_.getD i mark0).1 hks_ (hT.below (bg (bt HB2_ b166) g171 (HB2_).size)) es (hE.below (bg (bt HB2_ b166) g171 (HB2_).size))) ?_
  rintro e w182 ⟨rfl,M183,C184⟩; refine⟨_,rfl,?_⟩
  have hlo188:Below wB.heap.size w170 w182:=C184.lo ((bg (bt HB2_ b166) g171 (HB2_).size)).size (fun g_ h_=>(O187.lt g_ h_).1)
  have k189:=C184.blk k175 hnm3_
  have k190:=C184.blk k177 hnm4_
  have k191:=C184.blk k179 hno125
  have k192:=C184.blk k181 hno112
  have hno194:¬Qm_ wd.heap.size:=(fun h_=>absurd (hM_.lt _ h_).2 (Nat.not_lt.2 (Nat.le_trans hw0W_ hWd_)))
  have r195:=C184.R (Kd.R_below hrw_ (bg b166 g171 (Nat.le_refl _))) (fun g_ h1_ h2_=>absurd (hM_.lt g_ h2_).2 (Nat.not_lt.2 (Nat.le_trans (Nat.le_refl _) h1_)))
  have r196:=C184.R (Kd.R_below hri_ (bg b166 g171 (Nat.le_refl _))) (fun g_ h1_ h2_=>absurd (hM_.lt g_ h2_).2 (Nat.not_lt.2 (Nat.le_trans hlol_ h1_.1)))
  rw[hdr_.2]at M183
  rw[hdr_.1,errV_zero]
  refine xr0 1 [(76,bF)] [72,74,75] ?_
  refine nl (cf (sk (rg (xr1 2 [(77,.eq (i6 ((i:Int)+1)))] [(68,i6 ((i:Int)+1))] [76] (w6 ((i:Int)+1)) ?_))))
  refine nl ?_
  have B197:Below wB.heap.size wB w182:=(Below.trans (bg (bt HB2_ b166) g171 (HB2_).size) hlo188)
  refine⟨(i+1),by kernel_rfl,?_,?_⟩
  ·exact⟨by omega,M183,k189,k190,k191,k192,r195,r196,B197,(Nat.le_trans hWd_ (Nat.le_trans (Nat.le_trans b166.size g171.size) hlo188.size))⟩
  (try dsimp only); omega
 refine xr1 1 [(69,.eq bF)] [(69,bF)] [] (dF c161) ?_
 refine nl (sq (cf (X_exit (sq (sg (xr0 1 [(78,pw g13 0)] [66,67,68,69] ?_))))))
 refine xc 26 ent26 [pw g13 0] (hMd_.len) ?_
 rintro e w198 ⟨rfl,b199⟩; refine⟨_,rfl,?_⟩
 rw[show (ms_.drop i).length=0 from by rw[List.length_drop]; omega]
 refine xr0 4 [(81,bF),(82,pw g13 0),(83,.agg #[sT (⟨#[108,97,116,101,114]⟩:ByteArray),i6 0,i6 0])] [5,78,79] ?_
 have O205:=(hMd_.below b199)
 refine xc 15 ent15 [pw g13 0,.agg #[sT (⟨#[108,97,116,101,114]⟩:ByteArray),i6 0,i6 0],i6 0] (O205.set (⟨#[108,97,116,101,114]⟩,0,0) 0 (by decide) (hT.below (bt HB2_ b199)) es (hE.below (bt HB2_ b199))) ?_
 rintro e w200 ⟨rfl,M201,C202⟩; refine⟨_,rfl,?_⟩
 have hlo206:Below wB.heap.size w198 w200:=C202.lo ((bt HB2_ b199)).size (fun g_ h_=>(O205.lt g_ h_).1)
 have k207:=C202.blk (Blk.below hb0_ b199) hnm3_
 have k208:=C202.blk (Blk.below hb1_ b199) hnm4_
 have k209:=C202.blk (Blk.below hb2_ b199) hno125
 have k210:=C202.blk (Blk.below hb3_ b199) hno112
 have r211:=C202.R (Kd.R_below hrw_ b199) (fun g_ h1_ h2_=>absurd (hM_.lt g_ h2_).2 (Nat.not_lt.2 (Nat.le_trans (Nat.le_refl _) h1_)))
 have r212:=C202.R (Kd.R_below hri_ b199) (fun g_ h1_ h2_=>absurd (hM_.lt g_ h2_).2 (Nat.not_lt.2 (Nat.le_trans hlol_ h1_.1)))
 rw[show ms_.drop i=[]from List.drop_eq_nil_of_le (by omega),ok_later,errV_zero]
 refine xr0 2 [(86,bF)] [81,82,83,84] ?_
 refine nl (cf (sk (sq (sg (xw 1 [] [(13,pw w200.heap.size 0)] [86] (w200.alloc (.cells #[i6 0] 3)) [] trivial ?_)))))
 obtain⟨w213,w217,b214,k215,z216⟩:=new_world w200 #[i6 0] 3
 rw[w217]
 refine xst (i6 0) k215 0 #[i6 0] (fun w218 g219 k220 z221=>?_)
 have hne222:w1.heap.size≠w200.heap.size:=Blk.tne (Blk.below k208 b214) k215 rfl
 have k223:=Blk.other (Blk.below k208 b214) g219 hne222
 have hne224:w74.heap.size≠w200.heap.size:=Blk.tne (Blk.below k209 b214) k215 rfl
 have k225:=Blk.other (Blk.below k209 b214) g219 hne224
 have hne226:g103≠w200.heap.size:=Blk.tne (Blk.below k210 b214) k215 rfl
 have k227:=Blk.other (Blk.below k210 b214) g219 hne226
 have r228:=Kd.R_off (Kd.R_below r211 b214) k215 (by decide) g219
 refine nl (X_block ?_)
 have hCw0_:kMark.C w218 A72 ms_.length ms_:=Kd.R_C r228
 have hri0_:=(Kd.R_below r212 (bg b214 g219 (Nat.le_refl _)))
 have hhW9_:w110.heap.size≤w218.heap.size:=(Nat.le_trans (Nat.le_trans hhiW_ hWd_) (Nat.le_trans (Nat.le_trans (Nat.le_trans b199.size hlo206.size) b214.size) g219.size))
 have hkb229:=(Blk.below k207 (bg b214 g219 (Nat.le_refl _)))
 have hkb230:=k223
 have hkb231:=k225
 have hkb232:=k227
 refine X_loop (ι:=Nat×List Nat×Nat) (fun⟨t,ds,g13v⟩=>[(3,pw wB.heap.size 0),(4,pw w1.heap.size 0),(9,pw w74.heap.size 0),(10,.func (.func 55) #[] #[pw g103 0]),(13,pw g13v 0),(1000000,encD ds)]) (fun⟨t,ds,g13v⟩ wt=>t≤2∧RX.Blk wt g13v 3 #[i6 (t:Int)]∧Below w218.heap.size w218 wt∧Defs ds wt∧ds.Nodup∧(∀ D∈ds,w218.heap.size≤D)) (fun⟨t,ds,g13v⟩=>2-t) (0,[],w200.heap.size) ⟨by omega,k220,Below.refl _ _,fun _ h_=>(by cases h_),List.nodup_nil,fun _ h_=>(by cases h_)⟩ (by kernel_rfl) ?_
 rintro⟨t,ds,g13v⟩ wt ⟨ht2,hk13,HB3_,hds,hdn,hdge⟩
 have hCw_:=Kd.C_below hCw0_ HB3_
 have hri3_:=Kd.R_below hri0_ HB3_
 refine sq (sg (xr1 1 [(87,.load (i6 (t:Int)))] [(87,nv t)] [] (lc 3 hk13 0) ?_))
 by_cases c233:(t:Int)<2
 ·refine xr1 1 [(88,.eq bT)] [(88,bT)] [87] (dT c233) ?_
  refine nl (ct (sk (sq (bk (sg (xw 1 [] [(14,pw wt.heap.size 0)] [88] (wt.alloc (.cells #[i6 0] 3)) [] trivial ?_))))))
  obtain⟨w234,w238,b235,k236,z237⟩:=new_world wt #[i6 0] 3
  rw[w238]
  refine xst (i6 0) k236 0 #[i6 0] (fun w239 g240 k241 z242=>?_)
  have hne243:w1.heap.size≠wt.heap.size:=Blk.tne (Blk.below hkb230 (bt HB3_ b235)) k236 rfl
  have k244:=Blk.other (Blk.below hkb230 (bt HB3_ b235)) g240 hne243
  have hne245:w74.heap.size≠wt.heap.size:=Blk.tne (Blk.below hkb231 (bt HB3_ b235)) k236 rfl
  have k246:=Blk.other (Blk.below hkb231 (bt HB3_ b235)) g240 hne245
  have hne247:g103≠wt.heap.size:=Blk.tne (Blk.below hkb232 (bt HB3_ b235)) k236 rfl
  have k248:=Blk.other (Blk.below hkb232 (bt HB3_ b235)) g240 hne247
  refine nl (sq (sg (xr0 1 [(91,.func (.func 55) #[] #[pw g103 0])] [] ?_)))
  refine nl (X_block ?_)
  have hWt_:w218.heap.size≤wt.heap.size:=(HB3_).size
  have hwW_:wt.heap.size≤w239.heap.size:=((bg b235 g240 (Nat.le_refl _))).size
  have hg14_:wt.heap.size≤wt.heap.size:=(Nat.le_refl _)
  have hne249:g13v≠wt.heap.size:=Nat.ne_of_lt (Nat.lt_of_lt_of_le (Blk.lt hk13) (Nat.le_refl _))
  have hne251:wB.heap.size≠wt.heap.size:=Nat.ne_of_lt (Nat.lt_of_lt_of_le (Blk.lt hkb229) (HB3_).size)
  have hne253:w74.heap.size≠wt.heap.size:=Nat.ne_of_lt (Nat.lt_of_lt_of_le (Blk.lt hkb231) (HB3_).size)
  have hne255:w1.heap.size≠wt.heap.size:=Nat.ne_of_lt (Nat.lt_of_lt_of_le (Blk.lt hkb230) (HB3_).size)
  have hDt_:∀ k_,(fun k_=>w92.heap.size≤k_∧k_<w110.heap.size) k_→k_<w239.heap.size:=fun k_ h_=>by have h2_:=h_.2; omega
  refine X_rangeM (α:=MarkA) (ι:=Nat) rfl ent55 (encs:=(fun x_:MarkA=>#[mV x_])) (vals_seq (fun k_=>w92.heap.size≤k_∧k_<w110.heap.size) (fun k_=>w92.heap.size≤k_∧k_<w110.heap.size) w92.heap.size g103 A104 c105 ms_ w239 (Kd.R_below hri3_ (bg b235 g240 (Nat.le_refl _))) (fun k_ h_=>h_) hDt_ (by omega) k248) (Below.refl _ _) hDt_ (fun _=>rfl) (by kernel_rfl) (fun pre_ M_ W_=>MemI wt wt.heap.size g13v wB.heap.size w74.heap.size w1.heap.size t A72 ms_.length c73 stop pre_ M_ W_) (fun c_ pre_ W_=>MemX wt wt.heap.size g13v wB.heap.size w74.heap.size w1.heap.size t A72 ms_.length c73 stop ms_ c_ pre_ W_) (fun M_=>MemI.own hwW_ M_) (fun c_=>MemX.own hwW_ c_) (fun pre_ M_ W_ h_ k_ hk_=>by obtain⟨h1_,_,_,_,_,rfl,_⟩:=h_; obtain rfl:k_=wt.heap.size:=hk_; exact⟨fun h_=>by have h2_:=h_.2; omega,h1_.lt⟩) (· =wt.heap.size) ⟨k241,(Blk.below hk13 (bg b235 g240 (Nat.le_refl _))),(Blk.below hkb229 (bg (bt HB3_ b235) g240 (HB3_).size)),k246,k244,rfl,(bg b235 g240 (Nat.le_refl _))⟩ (fun x_ i_ W_=>RX.Blk W_ i_ 31 #[sT x_.1,i6 x_.2.1,i6 x_.2.2]∧x_∈ms_) (fun i_=>OwnFrom.and (ownFrom_blk (fun _=>i_) 31 (fun(x_:MarkA)=>#[sT x_.1,i6 x_.2.1,i6 x_.2.2])) (RX.ownFrom_pure (fun x_=>x_∈ms_))) (fun x_ i_=>[(3,pw wB.heap.size 0),(4,pw w1.heap.size 0),(9,pw w74.heap.size 0),(13,pw g13v 0),(14,pw wt.heap.size 0),(15,pw i_ 0)]) ?_ ?_ ?_ ?_
  ·rintro lp_ pre_ M_ x_ W_ hlp_ hws_ ⟨hk14_,hk13_,hk3v_,hk9_,hk4v_,hM9_,hBw_⟩ hpx_ hlen_
   have hg14l_:=hk14_.lt
   refine XI_keep [3,4,9,10,13,14,91,92] [(3,pw wB.heap.size 0),(4,pw w1.heap.size 0),(9,pw w74.heap.size 0),(10,.func (.func 55) #[] #[pw g103 0]),(13,pw g13v 0),(14,pw wt.heap.size 0),(91,.func (.func 55) #[] #[pw g103 0]),(92,.agg #[sT x_.1,i6 x_.2.1,i6 x_.2.2])] (by kernel_rfl) ?_
   refine XI_region (by kernel_rfl) (fun _ _ h_=>h_) ?_
   refine xwe 1 [] [(3,pw wB.heap.size 0),(4,pw w1.heap.size 0),(9,pw w74.heap.size 0),(10,.func (.func 55) #[] #[pw g103 0]),(13,pw g13v 0),(14,pw wt.heap.size 0),(15,pw W_.heap.size 0),(92,.agg #[sT x_.1,i6 x_.2.1,i6 x_.2.2])] (W_.alloc (.cells #[s0,i6 0,i6 0] 31)) [] trivial ?_
   obtain⟨w257,w261,b258,k259,z260⟩:=new_world W_ #[s0,i6 0,i6 0] 31
   rw[w261]
   refine xst (.agg #[sT x_.1,i6 x_.2.1,i6 x_.2.2]) k259 0 #[sT x_.1,i6 x_.2.1,i6 x_.2.2] (fun w262 g263 k264 z265=>?_)
   have hne266:wt.heap.size≠W_.heap.size:=Blk.tne (Blk.below hk14_ b258) k259 rfl
   have k267:=Blk.other (Blk.below hk14_ b258) g263 hne266
   have hne268:g13v≠W_.heap.size:=Blk.tne (Blk.below hk13_ b258) k259 rfl
   have k269:=Blk.other (Blk.below hk13_ b258) g263 hne268
   have hne270:wB.heap.size≠W_.heap.size:=Blk.tne (Blk.below hk3v_ b258) k259 rfl
   have k271:=Blk.other (Blk.below hk3v_ b258) g263 hne270
   have hne272:w74.heap.size≠W_.heap.size:=Blk.tne (Blk.below hk9_ b258) k259 rfl
   have k273:=Blk.other (Blk.below hk9_ b258) g263 hne272
   have hne274:w1.heap.size≠W_.heap.size:=Blk.tne (Blk.below hk4v_ b258) k259 rfl
   have k275:=Blk.other (Blk.below hk4v_ b258) g263 hne274
   refine nl ?_
   exact⟨W_.heap.size,by kernel_rfl,(KeepsFrom.trans (keeps_below b258) (keeps_store k259 g263)),KpM.below (fun k_ h_=>Nat.lt_of_lt_of_le (hDt_ k_ h_) hws_) ((bg b258 g263 (Nat.le_refl _)):Below W_.heap.size W_ w262),⟨k267,k269,k271,k273,k275,hM9_,(bg (bt hBw_ b258) g263 (hBw_).size)⟩,k264,hpx_⟩
  ·rintro lp_ pre_ M_ x_ i_ W_ hlp_ hws_ ⟨hk14_,hk13_,hk3v_,hk9_,hk4v_,hM9_,hBw_⟩ ⟨hk8i_,hpx_⟩ hlen_
   have hg14l_:=hk14_.lt
   refine XI_block ?_
   refine XI_seq ?_
   refine XI_seq ?_
   refine XI_any (by kernel_rfl) (fun _ _ h_=>h_) [] 12 (tf 0 12) (by kernel_rfl) (by kernel_rfl) (by kernel_rfl) (fun wd276 b277 h278=>?_)
   refine XA_run (fuel':=9) [0,1,2] [(93,.load (i6 (pre_.length:Int))),(94,.load (aL A72 ms_ c73))] [i6 (pre_.length:Int),.slice A72 ms_.length c73,i6 (ms_.length:Int)] (tf 3 9) [(3,pw wB.heap.size 0),(4,pw w1.heap.size 0),(9,pw w74.heap.size 0),(13,pw g13v 0),(14,pw wt.heap.size 0),(15,pw i_ 0),(93,i6 (pre_.length:Int)),(95,i6 (ms_.length:Int))] [la 3 (⟨wt.heap.size,0,none⟩) (i6 (pre_.length:Int)) wd276,la 27 (⟨w74.heap.size,0,none⟩) (aL A72 ms_ c73) wd276] ⟨loads1 rfl (Blk.cell (Blk.below hk14_ b277) 0 _ rfl),loads1 rfl (Blk.cell (Blk.below hk9_ b277) 0 _ rfl),trivial⟩ ?_
   by_cases c279:(pre_.length:Int)≥(ms_.length:Int)
   ·refine XA_runC (fuel':=0) [3,4,5,6,7,8,9,10,11] [(96,.eq bT)] [bT,bT,undef,undef,undef,undef,undef,undef,bT] (tf 12 0) [(104,bT)] [15,93,95] [Value.bool (decide ((pre_.length:Int)≥(ms_.length:Int)))=bT] ⟨congrArg Value.bool (decide_eq_true (c279)),trivial⟩ ?_
    refine XA_done (by kernel_rfl) ?_
    refine XI_cond true rfl ?_
    refine XI_seq ?_
    refine XI_region (by kernel_rfl) (fun _ _ h_=>h_) ?_
    refine xst bF (Blk.below hk4v_ b277) 0 #[bF] (fun w280 g281 k282 z283=>?_)
    refine nl (XI_ret ?_)
    exact absurd hlen_ (by omega)
   refine XA_runC (fuel':=4) [3,4,5,6,7] [(96,.eq bF),(98,.load (.agg #[sT x_.1,i6 x_.2.1,i6 x_.2.2])),(99,.load (aL A72 ms_ c73)),(100,.load (i6 (pre_.length:Int)))] [bF,bF,.agg #[sT x_.1,i6 x_.2.1,i6 x_.2.2],.slice A72 ms_.length c73,i6 (pre_.length:Int)] (tf 8 4) [(97,bF),(98,.agg #[sT x_.1,i6 x_.2.1,i6 x_.2.2]),(99,aL A72 ms_ c73),(100,i6 (pre_.length:Int))] [15,93,95] [Value.bool (decide ((pre_.length:Int)≥(ms_.length:Int)))=bF,la 31 (⟨i_,0,none⟩) (.agg #[sT x_.1,i6 x_.2.1,i6 x_.2.2]) wd276,la 27 (⟨w74.heap.size,0,none⟩) (aL A72 ms_ c73) wd276,la 3 (⟨wt.heap.size,0,none⟩) (i6 (pre_.length:Int)) wd276] ⟨congrArg Value.bool (decide_eq_false (c279)),loadsB rfl rfl (Blk.below hk8i_ b277) 0 ⟨by kernel_rfl,by kernel_rfl⟩,loads1 rfl (Blk.cell (Blk.below hk9_ b277) 0 _ rfl),loads1 rfl (Blk.cell (Blk.below hk14_ b277) 0 _ rfl),trivial⟩ ?_
   obtain⟨ad293,a294,c295⟩:=Kd.atMark (Kd.C_below hCw_ (bt hBw_ b277)) (i:=(pre_.length:Int)) (by omega) (by omega)
   replace c295:CellsAt wd276 (ad293.add ((pre_.length:Int).toNat*3)) [sT ((ms_.getD pre_.length mark0).1),i6 ((ms_.getD pre_.length mark0).2.1),i6 ((ms_.getD pre_.length mark0).2.2)]:=c295
   refine XA_runC (fuel':=2) [8,9] [(101,.idx ad293),(102,.load (.agg #[sT ((ms_.getD pre_.length mark0).1),i6 ((ms_.getD pre_.length mark0).2.1),i6 ((ms_.getD pre_.length mark0).2.2)]))] [.pointer (some (ad293.add ((pre_.length:Int).toNat*3))),.agg #[sT ((ms_.getD pre_.length mark0).1),i6 ((ms_.getD pre_.length mark0).2.1),i6 ((ms_.getD pre_.length mark0).2.2)]] (tf 10 2) [(102,.agg #[sT ((ms_.getD pre_.length mark0).1),i6 ((ms_.getD pre_.length mark0).2.1),i6 ((ms_.getD pre_.length mark0).2.2)])] [99,100] [A72=some ad293,(0:Int)≤(pre_.length:Int),(pre_.length:Int)<(ms_.length:Int),la 31 (ad293.add ((pre_.length:Int).toNat*3)) (.agg #[sT ((ms_.getD pre_.length mark0).1),i6 ((ms_.getD pre_.length mark0).2.1),i6 ((ms_.getD pre_.length mark0).2.2)]) wd276] ⟨a294,(by omega),(by omega),loadsE rfl rfl c295 0 ⟨by kernel_rfl,by kernel_rfl⟩,trivial⟩ ?_
   by_cases c296:x_=(ms_.getD pre_.length mark0)
   ·refine XA_runC (fuel':=0) [10,11] [(103,.as bF)] [bF,bF] (tf 12 0) [(104,bF)] [97,98,102] [RunsAs Tryz.prog [(98,.agg #[sT x_.1,i6 x_.2.1,i6 x_.2.2]),(102,.agg #[sT ((ms_.getD pre_.length mark0).1),i6 ((ms_.getD pre_.length mark0).2.1),i6 ((ms_.getD pre_.length mark0).2.2)])] (Go.Op.binOp Go.BinOp.neq 31 (Go.Operand.tmp 98) (Go.Operand.tmp 102) 31) 4 bF wd276] ⟨runs_bin rfl rfl (run_eqGuard_agg _ _ _ _ _ _ _ (by kernel_rfl)) (mk_neq_eq c296 _),trivial⟩ ?_
    refine XA_done (by kernel_rfl) ?_
    refine XI_cond false rfl ?_
    refine XI_skip ?_
    refine XI_seq ?_
    refine XI_region (by kernel_rfl) (fun _ _ h_=>h_) ?_
    refine xr 2 [(105,.load (i6 (pre_.length:Int))),(106,.eq (i6 ((pre_.length:Int)+1)))] [(106,i6 ((pre_.length:Int)+1))] [104] [_,_] ⟨lc 3 (Blk.below hk14_ b277) 0,w6 ((pre_.length:Int)+1),trivial⟩ ?_
    refine xst (i6 ((pre_.length:Int)+1)) (Blk.below hk14_ b277) 0 #[i6 ((pre_.length:Int)+1)] (fun w297 g298 k299 z300=>?_)
    have k301:=Blk.other (Blk.below hk13_ b277) g298 hne249
    have k302:=Blk.other (Blk.below hk3v_ b277) g298 hne251
    have k303:=Blk.other (Blk.below hk9_ b277) g298 hne253
    have k304:=Blk.other (Blk.below hk4v_ b277) g298 hne255
    refine nl (XI_seq ?_)
    refine XI_region (by kernel_rfl) (fun _ _ h_=>h_) ?_
    refine xr1 1 [(107,.load (i6 (t:Int)))] [(107,nv t)] [106] (lc 3 k301 0) ?_
    by_cases c307:(t:Int)=0
    ·refine xe 4 [(108,.eq bT),(110,.load (i6 ((pre_.length:Int)+1))),(111,.load (i6 stop))] [(3,pw wB.heap.size 0),(4,pw w1.heap.size 0),(9,pw w74.heap.size 0),(13,pw g13v 0),(14,pw wt.heap.size 0),(109,bT),(110,i6 ((pre_.length:Int)+1)),(111,i6 stop)] [_,_,_] ⟨bE c307,lc 3 k299 0,lc 3 k302 0,trivial⟩ ?_
     by_cases c308:(pre_.length:Int)+1=stop
     ·refine xr1 2 [(112,.eq bT)] [(113,bT)] [109,110,111] (bE c308) ?_
      refine nl (XI_cond true rfl ?_)
      refine XI_exit ?_
      have B309:Below wt.heap.size wt w297:=(bg (bt hBw_ b277) g298 (Nat.le_refl _))
      exact⟨(KeepsFrom.trans (keeps_below b277) (keeps_store (Blk.below hk14_ b277) g298)),.inr ⟨rfl,by omega,by rw[List.length_append,List.length_singleton]; omega,_,⟨by rw[List.length_append,List.length_singleton]; exact k299,k301,k302,k303,k304,rfl,B309⟩⟩⟩
     refine xr1 2 [(112,.eq bF)] [(113,bF)] [109,110,111] (bN c308) ?_
     refine nl (XI_cond false rfl ?_)
     refine XI_skip ?_
     have B310:Below wt.heap.size wt w297:=(bg (bt hBw_ b277) g298 (Nat.le_refl _))
     exact⟨(KeepsFrom.trans (keeps_below b277) (keeps_store (Blk.below hk14_ b277) g298)),M_,(KpM.trans (KpM.below (fun k_ h_=>Nat.lt_of_lt_of_le (Nat.lt_of_lt_of_le (hDt_ k_ h_) hws_) (Nat.le_refl _)) b277) (KpM.grown g298 (fun k_ e_=>by injection e_ with e_; subst e_; exact⟨by rw[hM9_],fun h_=>by have h2_:=h_.2; omega⟩) (fun k_ h_=>Nat.lt_of_lt_of_le (Nat.lt_of_lt_of_le (hDt_ k_ h_) hws_) b277.size))),fun k_ h_=>.inl h_,⟨by rw[List.length_append,List.length_singleton]; exact k299,k301,k302,k303,k304,hM9_,B310⟩⟩
    refine xe1 6 [(108,.eq bF)] [(3,pw wB.heap.size 0),(4,pw w1.heap.size 0),(9,pw w74.heap.size 0),(13,pw g13v 0),(14,pw wt.heap.size 0),(113,bF)] (bN c307) ?_
    refine nl (XI_cond false rfl ?_)
    refine XI_skip ?_
    have B311:Below wt.heap.size wt w297:=(bg (bt hBw_ b277) g298 (Nat.le_refl _))
    exact⟨(KeepsFrom.trans (keeps_below b277) (keeps_store (Blk.below hk14_ b277) g298)),M_,(KpM.trans (KpM.below (fun k_ h_=>Nat.lt_of_lt_of_le (Nat.lt_of_lt_of_le (hDt_ k_ h_) hws_) (Nat.le_refl _)) b277) (KpM.grown g298 (fun k_ e_=>by injection e_ with e_; subst e_; exact⟨by rw[hM9_],fun h_=>by have h2_:=h_.2; omega⟩) (fun k_ h_=>Nat.lt_of_lt_of_le (Nat.lt_of_lt_of_le (hDt_ k_ h_) hws_) b277.size))),fun k_ h_=>.inl h_,⟨by rw[List.length_append,List.length_singleton]; exact k299,k301,k302,k303,k304,hM9_,B311⟩⟩
   refine XA_runC (fuel':=0) [10,11] [(103,.as bT)] [bT,bT] (tf 12 0) [(104,bT)] [97,98,102] [RunsAs Tryz.prog [(98,.agg #[sT x_.1,i6 x_.2.1,i6 x_.2.2]),(102,.agg #[sT ((ms_.getD pre_.length mark0).1),i6 ((ms_.getD pre_.length mark0).2.1),i6 ((ms_.getD pre_.length mark0).2.2)])] (Go.Op.binOp Go.BinOp.neq 31 (Go.Operand.tmp 98) (Go.Operand.tmp 102) 31) 4 bT wd276] ⟨runs_bin rfl rfl (run_eqGuard_agg _ _ _ _ _ _ _ (by kernel_rfl)) (mk_neq_of c296 _),trivial⟩ ?_
   refine XA_done (by kernel_rfl) ?_
   refine XI_cond true rfl ?_
   refine XI_seq ?_
   refine XI_region (by kernel_rfl) (fun _ _ h_=>h_) ?_
   refine xst bF (Blk.below hk4v_ b277) 0 #[bF] (fun w312 g313 k314 z315=>?_)
   refine nl (XI_ret ?_)
   exact⟨(KeepsFrom.trans (keeps_below b277) (keeps_store (Blk.below hk4v_ b277) g313)),.inl ⟨rfl,fun h_=>c296 (take_last h_.1)⟩⟩
  ·rintro D326 pre_ M_ w325 D327 S328 ⟨hk14_,hk13_,hk3v_,hk9_,hk4v_,hM9_,hBw_⟩ K329
   have hg14l_:=hk14_.lt
   have hall_:pre_.length=ms_.length:=by rw[S328]
   have hds330:Defs (D326::ds) w325:=Defs.cons K329 (Defs.below hBw_ hds)
   have hdn331:(D326::ds).Nodup:=List.nodup_cons.2 ⟨fun hm_=>by have h_:=Defs.lt hds _ hm_; omega,hdn⟩
   have hdge332:∀ D_∈D326::ds,w218.heap.size≤D_:=fun D_ hm_=>(List.mem_cons.1 hm_).elim (fun e_=>by omega) (hdge D_)
   refine sg (xe 3 [(114,.load (i6 (pre_.length:Int))),(115,.load (aL A72 ms_ c73))] [(3,pw wB.heap.size 0),(4,pw w1.heap.size 0),(9,pw w74.heap.size 0),(10,.func (.func 55) #[] #[pw g103 0]),(13,pw g13v 0),(14,pw wt.heap.size 0),(114,i6 (pre_.length:Int)),(116,i6 (ms_.length:Int)),(1000000,encD (D326::ds))] [_,_] ⟨lc 3 hk14_ 0,lc 27 hk9_ 0,trivial⟩ ?_)
   by_cases c333:(pre_.length:Int)=(ms_.length:Int)
   ·refine xr1 10 [(117,.eq bF)] [(126,bF)] [14,114,116] (nF c333) ?_
    refine nl (cf (sk (sq (sg (xr1 1 [(127,.load (i6 (t:Int)))] [(127,nv t)] [13,126] (lc 3 hk13_ 0) ?_)))))
    refine nl (rg (xw 1 [] [(13,pw w325.heap.size 0)] [] (w325.alloc (.cells #[i6 0] 3)) [] trivial ?_))
    obtain⟨w334,w338,b335,k336,z337⟩:=new_world w325 #[i6 0] 3
    rw[w338]
    refine xst (i6 (t:Int)) k336 0 #[i6 (t:Int)] (fun w339 g340 k341 z342=>?_)
    refine nl (rg (xr 2 [(89,.load (i6 (t:Int))),(90,.eq (i6 ((t:Int)+1)))] [(90,i6 ((t:Int)+1))] [127] [_,_] ⟨lc 3 k341 0,w6 ((t:Int)+1),trivial⟩ ?_))
    refine xst (i6 ((t:Int)+1)) k341 0 #[i6 ((t:Int)+1)] (fun w347 g348 k349 z350=>?_)
    refine nl ?_
    have B353:Below w218.heap.size w218 w347:=(bg (bg (bt (bt HB3_ hBw_) b335) g340 ((bt HB3_ hBw_)).size) g348 ((bt HB3_ hBw_)).size)
    refine⟨(t+1,(D326::ds),w325.heap.size),by kernel_rfl,?_,?_⟩
    ·have hx8:=k349
     exact⟨by omega,hx8,B353,(Defs.store k341 g348 (Defs.store k336 g340 (Defs.below b335 hds330))),hdn331,hdge332⟩
    (try dsimp only); omega
   refine xr 3 [(117,.eq bT),(119,.load (i6 (t:Int)))] [(118,bT),(119,nv t)] [114,116] [_,_] ⟨nT c333,lc 3 hk13_ 0,trivial⟩ ?_
   by_cases c354:(t:Int)=1
   ·refine xr1 7 [(120,.eq bT)] [(126,bT)] [14,118,119] (bE c354) ?_
    refine nl (ct (sg (xst bF hk4v_ 0 #[bF] (fun w355 g356 k357 z358=>?_))))
    refine nl (X_ret (RX.retM_cell (P:=Tryz.prog) (fn:=Tryz.f6) (N:=128) (R:=R_) (c:=4) (t:=4) (p:=⟨w1.heap.size,0,none⟩) (v:=bF) (ds:=(D326::ds)) (dsOf_enc (by kernel_rfl)) hdn331 (Defs.store hk4v_ g356 hds330) rfl rfl k357 (fun w_ hb_=>loads1 rfl (Blk.cell hb_ 0 _ rfl)) (fun w_ ho_=>hR_ _ _ ?_)))
    exfalso; first|omega|(simp at *; done)|(simp at *; omega)
   refine xr 4 [(120,.eq bF),(122,.load (i6 (pre_.length:Int))),(123,.load (i6 stop))] [(121,bF),(122,i6 (pre_.length:Int)),(123,i6 stop)] [14,119] [_,_,_] ⟨bN c354,lc 3 hk14_ 0,lc 3 hk3v_ 0,trivial⟩ ?_
   by_cases c366:(pre_.length:Int)=stop
   ·refine xr1 3 [(124,.eq bF)] [(126,bF)] [118,121,122,123] (nF c366) ?_
    refine nl (cf (sk (sq (sg (xr1 1 [(127,.load (i6 (t:Int)))] [(127,nv t)] [13,126] (lc 3 hk13_ 0) ?_)))))
    refine nl (rg (xw 1 [] [(13,pw w325.heap.size 0)] [] (w325.alloc (.cells #[i6 0] 3)) [] trivial ?_))
    obtain⟨w367,w371,b368,k369,z370⟩:=new_world w325 #[i6 0] 3
    rw[w371]
    refine xst (i6 (t:Int)) k369 0 #[i6 (t:Int)] (fun w372 g373 k374 z375=>?_)
    refine nl (rg (xe 2 [(89,.load (i6 (t:Int))),(90,.eq (i6 ((t:Int)+1)))] [(3,pw wB.heap.size 0),(4,pw w1.heap.size 0),(9,pw w74.heap.size 0),(10,.func (.func 55) #[] #[pw g103 0]),(13,pw w325.heap.size 0),(90,i6 ((t:Int)+1)),(1000000,encD (D326::ds))] [_,_] ⟨lc 3 k374 0,w6 ((t:Int)+1),trivial⟩ ?_))
    refine xst (i6 ((t:Int)+1)) k374 0 #[i6 ((t:Int)+1)] (fun w380 g381 k382 z383=>?_)
    refine nl ?_
    have B386:Below w218.heap.size w218 w380:=(bg (bg (bt (bt HB3_ hBw_) b368) g373 ((bt HB3_ hBw_)).size) g381 ((bt HB3_ hBw_)).size)
    refine⟨(t+1,(D326::ds),w325.heap.size),by kernel_rfl,?_,?_⟩
    ·have hx8:=k382
     exact⟨by omega,hx8,B386,(Defs.store k374 g381 (Defs.store k369 g373 (Defs.below b368 hds330))),hdn331,hdge332⟩
    (try dsimp only); omega
   refine xr1 3 [(124,.eq bT)] [(126,bT)] [118,121,122,123] (nT c366) ?_
   refine nl (ct (sg (xst bF hk4v_ 0 #[bF] (fun w387 g388 k389 z390=>?_))))
   refine nl (X_ret (RX.retM_cell (P:=Tryz.prog) (fn:=Tryz.f6) (N:=128) (R:=R_) (c:=4) (t:=4) (p:=⟨w1.heap.size,0,none⟩) (v:=bF) (ds:=(D326::ds)) (dsOf_enc (by kernel_rfl)) hdn331 (Defs.store hk4v_ g388 hds330) rfl rfl k389 (fun w_ hb_=>loads1 rfl (Blk.cell hb_ 0 _ rfl)) (fun w_ ho_=>hR_ _ _ ?_)))
   exfalso; first|omega|(simp at *; done)|(simp at *; omega)
  rintro D399 c_ pre_ w398 D400 S401 hix_ K402
  rcases hix_ with ⟨rfl,hno_⟩|⟨rfl,ht0_,hst_,M_,hk14_,hk13_,hk3v_,hk9_,hk4v_,hM9_,hBw_⟩
  ·exact absurd S401 hno_
  have htr_:=True.intro
  have hg14l_:=hk14_.lt
  have hds403:Defs (D399::ds) w398:=Defs.cons K402 (Defs.below hBw_ hds)
  have hdn404:(D399::ds).Nodup:=List.nodup_cons.2 ⟨fun hm_=>by have h_:=Defs.lt hds _ hm_; omega,hdn⟩
  have hdge405:∀ D_∈D399::ds,w218.heap.size≤D_:=fun D_ hm_=>(List.mem_cons.1 hm_).elim (fun e_=>by omega) (hdge D_)
  refine X_exit (sg (xe 3 [(114,.load (i6 (pre_.length:Int))),(115,.load (aL A72 ms_ c73))] [(3,pw wB.heap.size 0),(4,pw w1.heap.size 0),(9,pw w74.heap.size 0),(10,.func (.func 55) #[] #[pw g103 0]),(13,pw g13v 0),(14,pw wt.heap.size 0),(114,i6 (pre_.length:Int)),(116,i6 (ms_.length:Int)),(1000000,encD (D399::ds))] [_,_] ⟨lc 3 hk14_ 0,lc 27 hk9_ 0,trivial⟩ ?_))
  by_cases c406:(pre_.length:Int)=(ms_.length:Int)
  ·refine xr1 10 [(117,.eq bF)] [(126,bF)] [14,114,116] (nF c406) ?_
   refine nl (cf (sk (sq (sg (xr1 1 [(127,.load (i6 (t:Int)))] [(127,nv t)] [13,126] (lc 3 hk13_ 0) ?_)))))
   refine nl (rg (xw 1 [] [(13,pw w398.heap.size 0)] [] (w398.alloc (.cells #[i6 0] 3)) [] trivial ?_))
   obtain⟨w407,w411,b408,k409,z410⟩:=new_world w398 #[i6 0] 3
   rw[w411]
   refine xst (i6 (t:Int)) k409 0 #[i6 (t:Int)] (fun w412 g413 k414 z415=>?_)
   refine nl (rg (xr 2 [(89,.load (i6 (t:Int))),(90,.eq (i6 ((t:Int)+1)))] [(90,i6 ((t:Int)+1))] [127] [_,_] ⟨lc 3 k414 0,w6 ((t:Int)+1),trivial⟩ ?_))
   refine xst (i6 ((t:Int)+1)) k414 0 #[i6 ((t:Int)+1)] (fun w420 g421 k422 z423=>?_)
   refine nl ?_
   have B426:Below w218.heap.size w218 w420:=(bg (bg (bt (bt HB3_ hBw_) b408) g413 ((bt HB3_ hBw_)).size) g421 ((bt HB3_ hBw_)).size)
   refine⟨(t+1,(D399::ds),w398.heap.size),by kernel_rfl,?_,?_⟩
   ·have hx8:=k422
    exact⟨by omega,hx8,B426,(Defs.store k414 g421 (Defs.store k409 g413 (Defs.below b408 hds403))),hdn404,hdge405⟩
   (try dsimp only); omega
  refine xr 3 [(117,.eq bT),(119,.load (i6 (t:Int)))] [(118,bT),(119,nv t)] [114,116] [_,_] ⟨nT c406,lc 3 hk13_ 0,trivial⟩ ?_
  by_cases c427:(t:Int)=1
  ·refine xr1 7 [(120,.eq bT)] [(126,bT)] [14,118,119] (bE c427) ?_
   refine nl (ct (sg (xst bF hk4v_ 0 #[bF] (fun w428 g429 k430 z431=>?_))))
   refine nl (X_ret (RX.retM_cell (P:=Tryz.prog) (fn:=Tryz.f6) (N:=128) (R:=R_) (c:=4) (t:=4) (p:=⟨w1.heap.size,0,none⟩) (v:=bF) (ds:=(D399::ds)) (dsOf_enc (by kernel_rfl)) hdn404 (Defs.store hk4v_ g429 hds403) rfl rfl k430 (fun w_ hb_=>loads1 rfl (Blk.cell hb_ 0 _ rfl)) (fun w_ ho_=>hR_ _ _ ?_)))
   exfalso; first|omega|(simp at *; done)|(simp at *; omega)
  refine xr 4 [(120,.eq bF),(122,.load (i6 (pre_.length:Int))),(123,.load (i6 stop))] [(121,bF),(122,i6 (pre_.length:Int)),(123,i6 stop)] [14,119] [_,_,_] ⟨bN c427,lc 3 hk14_ 0,lc 3 hk3v_ 0,trivial⟩ ?_
  by_cases c439:(pre_.length:Int)=stop
  ·refine xr1 3 [(124,.eq bF)] [(126,bF)] [118,121,122,123] (nF c439) ?_
   refine nl (cf (sk (sq (sg (xr1 1 [(127,.load (i6 (t:Int)))] [(127,nv t)] [13,126] (lc 3 hk13_ 0) ?_)))))
   refine nl (rg (xw 1 [] [(13,pw w398.heap.size 0)] [] (w398.alloc (.cells #[i6 0] 3)) [] trivial ?_))
   obtain⟨w440,w444,b441,k442,z443⟩:=new_world w398 #[i6 0] 3
   rw[w444]
   refine xst (i6 (t:Int)) k442 0 #[i6 (t:Int)] (fun w445 g446 k447 z448=>?_)
   refine nl (rg (xe 2 [(89,.load (i6 (t:Int))),(90,.eq (i6 ((t:Int)+1)))] [(3,pw wB.heap.size 0),(4,pw w1.heap.size 0),(9,pw w74.heap.size 0),(10,.func (.func 55) #[] #[pw g103 0]),(13,pw w398.heap.size 0),(90,i6 ((t:Int)+1)),(1000000,encD (D399::ds))] [_,_] ⟨lc 3 k447 0,w6 ((t:Int)+1),trivial⟩ ?_))
   refine xst (i6 ((t:Int)+1)) k447 0 #[i6 ((t:Int)+1)] (fun w453 g454 k455 z456=>?_)
   refine nl ?_
   have B459:Below w218.heap.size w218 w453:=(bg (bg (bt (bt HB3_ hBw_) b441) g446 ((bt HB3_ hBw_)).size) g454 ((bt HB3_ hBw_)).size)
   refine⟨(t+1,(D399::ds),w398.heap.size),by kernel_rfl,?_,?_⟩
   ·have hx8:=k455
    exact⟨by omega,hx8,B459,(Defs.store k447 g454 (Defs.store k442 g446 (Defs.below b441 hds403))),hdn404,hdge405⟩
   (try dsimp only); omega
  refine xr1 3 [(124,.eq bT)] [(126,bT)] [118,121,122,123] (nT c439) ?_
  refine nl (ct (sg (xst bF hk4v_ 0 #[bF] (fun w460 g461 k462 z463=>?_))))
  refine nl (X_ret (RX.retM_cell (P:=Tryz.prog) (fn:=Tryz.f6) (N:=128) (R:=R_) (c:=4) (t:=4) (p:=⟨w1.heap.size,0,none⟩) (v:=bF) (ds:=(D399::ds)) (dsOf_enc (by kernel_rfl)) hdn404 (Defs.store hk4v_ g461 hds403) rfl rfl k462 (fun w_ hb_=>loads1 rfl (Blk.cell hb_ 0 _ rfl)) (fun w_ ho_=>hR_ _ _ ?_)))
  exfalso; first|omega|(simp at *; done)|(simp at *; omega)
 refine xr1 1 [(88,.eq bF)] [(88,bF)] [87] (dF c233) ?_
 refine nl (cf (X_exit (sg (xst bT (Blk.below hkb230 HB3_) 0 #[bT] (fun w471 g472 k473 z474=>?_)))))
 refine nl (X_ret (RX.retM_cell (P:=Tryz.prog) (fn:=Tryz.f6) (N:=128) (R:=R_) (c:=4) (t:=4) (p:=⟨w1.heap.size,0,none⟩) (v:=bT) (ds:=ds) (dsOf_enc (by kernel_rfl)) hdn (Defs.store (Blk.below hkb230 HB3_) g472 hds) rfl rfl k473 (fun w_ hb_=>loads1 rfl (Blk.cell hb_ 0 _ rfl)) (fun w_ ho_=>hR_ _ _ ?_)))
 have B485:Below wB.heap.size wB w471:=(bg (bt (bg (bt (Below.trans (bt HB2_ b199) hlo206) b214) g219 ((Below.trans (bt HB2_ b199) hlo206)).size) HB3_) g472 (b2).size)
 have B486:Below wB.heap.size wB w218:=(bg (bt (Below.trans (bt HB2_ b199) hlo206) b214) g219 ((Below.trans (bt HB2_ b199) hlo206)).size)
 exact⟨rfl,Off.below ho_ B485 (fun D_ hm_=>Nat.le_trans (B486).size (hdge D_ hm_))⟩
end Go.Proofs.YtlnnjfdonilgmaaGreatDoor
