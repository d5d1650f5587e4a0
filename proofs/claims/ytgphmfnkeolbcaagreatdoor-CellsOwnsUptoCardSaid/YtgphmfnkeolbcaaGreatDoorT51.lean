import Derived.Test.YtgphmfnkeolbcaaGreatDoorT50
/- What cells.Each goes over. Conditions: sizes, the tables of utf8, the errors' variables. -/
set_option linter.unusedVariables false
set_option linter.unusedSimpArgs false
set_option maxRecDepth 100000
namespace Go.Proofs.YtgphmfnkeolbcaaGreatDoor
open Go Go.RowKit Go.Proofs.YtgphmfnkeolbcaaGreatDoorW.PrintWords RX
theorem ent160 :Ent Tryz.prog 160:=ent_of Tryz.func160 (by kernel_rfl) rfl
theorem ent159 :Ent Tryz.prog 159:=ent_of Tryz.func159 (by kernel_rfl) rfl
theorem ent161 :Ent Tryz.prog 161:=ent_of Tryz.func161 (by kernel_rfl) rfl
theorem row_ge0 {α:Type}{d:Kd α}{e base:Nat}{w:World}{A:Option Addr}{n c:Nat}{xs:List α}(h:d.R e w base (OkFrom base) (.slice A n c) xs):∀ k,A.map (·.block)=some k→base≤k:=fun k hk=>h.1 k (by rw[ownB]; exact hk)
theorem clo_any (D:Nat→Prop)(lp gy n0 n Q k0:Nat)(cl:CellA)(A0:Option Addr)(pre:List ElA)(M:Nat→Prop)(J:List ElA→(Nat→Prop)→World→Prop)(Jx:List ElA→World→Prop)(W1:World)(hy:RX.Blk W1 gy 219 #[.func (.yield lp) #[] #[]])(hC:kAttr.C W1 A0 cl.attrs.length cl.attrs)(hcl:cl.attrs.length≤100000000)(hJ:J pre M W1)(hJb:∀ s M (W W1:World),Below W.heap.size W W1→J s M W→J s M W1)(hn:n0≤W1.heap.size)(hD:∀ k,D k→k<W1.heap.size)(hpn:pre.length=n)(hq:n<Q)(hY:YD D Tryz.prog lp n0 J Jx Q):
  Calls Tryz.prog 161 #[i6 (n:Int),.agg (c6A cl (aL A0 cl.attrs k0)),pw gy 0] W1 fun e W'=>ToldR D J Jx pre M n cl W1 e W':=by
 refine en Tryz.func161 rfl 14 [(0,i6 (n:Int)),(1,.agg (c6A cl (aL A0 cl.attrs k0))),(2,pw gy 0)] (fun R_ hR_=>?_)
 refine sg (xwe 1 [] [(0,nv n),(2,pw gy 0),(4,pw W1.heap.size 0)] (W1.alloc (.cells (c6A cl (aL A0 cl.attrs k0)) 51)) [] trivial ?_)
 obtain⟨w_1,w5,b2,k3,z4⟩:=new_world W1 (c6A cl (aL A0 cl.attrs k0)) 51
 rw[w5]
 refine xr0 1 [] [] ?_
 refine nl (sg (xr1 2 [(7,.load (aL A0 cl.attrs k0))] [(7,aL A0 cl.attrs k0)] [] (lc 49 k3 5) ?_))
 refine xc 110 ent110 [aL A0 cl.attrs k0] (clone_any _ _ cl.attrs _ (Kd.C_below hC b2) (by omega)) ?_
 rintro e w10 ⟨A6,c7,rfl,l8,r9,b11⟩; refine⟨_,rfl,?_⟩
 refine xr0 1 [(8,aL A6 cl.attrs c7),(9,pw W1.heap.size 5)] [7] ?_
 refine xst (aL A6 cl.attrs c7) (Blk.below k3 b11) 5 (c6A cl (aL A6 cl.attrs c7)) (fun w12 g13 k14 z15=>?_)
 have hne16:gy≠W1.heap.size:=Blk.tne (Blk.below hy (bt b2 b11)) (Blk.below k3 b11) rfl
 have k17:=Blk.other (Blk.below hy (bt b2 b11)) g13 hne16
 have r18:=Kd.R_off r9 (Blk.below k3 b11) (by decide) g13
 refine nl (sq (X_regionI ?_))
 refine XLI_pre 3 (by kernel_rfl) (fun _ _ h_=>h_) ?_
 refine xe 3 [(10,.load (.func (.yield lp) #[] #[])),(12,.load (.agg (c6A cl (aL A6 cl.attrs c7))))] [(10,.func (.yield lp) #[] #[]),(11,nv n),(12,.agg (c6A cl (aL A6 cl.attrs c7)))] [_,la 51 (⟨W1.heap.size,0,none⟩) (.agg (c6A cl (aL A6 cl.attrs c7))) w12] ⟨lc 219 k17 0,loadsB rfl rfl k14 0 ⟨by kernel_rfl,by kernel_rfl⟩,trivial⟩ ?_
 refine nl ?_
 have B20:Below W1.heap.size W1 w12:=(bg (bt b2 b11) g13 (Nat.le_refl _))
 refine XLI_yield rfl rfl rfl rfl [i6 (n:Int),.agg (c6A cl (aL A6 cl.attrs c7))] (by kernel_rfl) (hY pre M ((n:Int),cl,A6,c7) _ (hJb _ _ _ _ B20 hJ) ⟨Int.natCast_nonneg _,hcl,_,Nat.le_trans hn (b2).size,l8,r18⟩ (by omega)) ?_
 rintro e w19 (⟨rfl,M2_,hJ2_,hK2_,hM2_⟩|⟨rfl,hJ2_⟩)
 ·refine⟨_,rfl,?_⟩
  refine XLI_of (by kernel_rfl) (fun _ _ h_=>h_) ?_
  refine xe0 1 [(5,bT)] ?_
  refine nl (X_ret (rj [bT] hR_ ?_))
  have hs2_:=hK2_.size
  exact⟨((n:Int),cl,A6,c7),rfl,rfl,(fun k_ h_=>Nat.le_trans (b2).size (row_ge0 r9 k_ h_)),.inl ⟨rfl,M2_,hJ2_,(KpM.below hD B20).trans hK2_,(fun k_ h_=>(hM2_ k_ h_).imp id (Nat.le_trans (B20).size)),(fun k_ h_=>Nat.lt_of_lt_of_le (Kd.R_lt r18 k_ h_) hs2_)⟩⟩
 refine⟨_,rfl,?_⟩
 refine XLI_of (by kernel_rfl) (fun _ _ h_=>h_) ?_
 refine xe0 1 [(5,bF)] ?_
 refine nl (X_ret (rj [bF] hR_ ?_))
 exact⟨((n:Int),cl,A6,c7),rfl,rfl,(fun k_ h_=>Nat.le_trans (b2).size (row_ge0 r9 k_ h_)),.inr ⟨rfl,hJ2_⟩⟩
set_option maxHeartbeats 1000000 in
theorem told9_any (D okD:Nat→Prop)(b0 lp gy n0 Q:Nat)(A:Option Addr)(c:Nat)(ops:List OpA)(J:List ElA→(Nat→Prop)→World→Prop)(Jx:List ElA→World→Prop)(M0:Nat→Prop)(wo w:World)(hx:kOp.R 102 w b0 okD (.slice A ops.length c) ops)(hokD:∀ k,okD k→D k)(hol:ops.length≤1000000000)(hr:∀ t,t<ops.length→refuseP (ops.getD t op0)=0)(hz:∀ t,t<ops.length→opSz (ops.getD t op0))(hT:Tabs wo)(es:List Addr)(hE:ErrsC wo es)(hwo:∀ k,k<wo.heap.size→D k)(hB:Below wo.heap.size wo w)(hnw:n0≤w.heap.size)(hy:RX.Blk w gy 219 #[.func (.yield lp) #[] #[]])(hgy:∀ k,M0 k→k<gy∨gy+1≤k)(hJ0:J [] M0 w)(hJb:∀ s M (W W1:World),Below W.heap.size W W1→J s M W→J s M W1)(hMb:∀ s M W,J s M W→∀ k,M k→¬D k∧k<W.heap.size)(hD:∀ k,D k→k<w.heap.size)(hL:(cellsAll ops).length≤1000000000)(hQ:(cellsAll ops).length≤Q)(hY:YD D Tryz.prog lp n0 J Jx Q):
  Calls Tryz.prog 160 #[.slice A ops.length c,.func (.func 161) #[] #[pw gy 0]] w fun e W'=>((e=.returned bT∧∃ pre M,EOK (cellsAll ops) pre∧pre.length=(cellsAll ops).length∧J pre M W')∨(e=.returned bF∧∃ pre,EOK (cellsAll ops) pre∧Jx pre W')):=by
 refine en Tryz.func160 rfl 40 [(0,aL A ops c),(1,.func (.func 161) #[] #[pw gy 0])] (fun R_ hR_=>?_)
 refine sg (xe0 1 [(0,aL A ops c),(1,.func (.func 161) #[] #[pw gy 0])] ?_)
 refine nl (sg (xr0 1 [(5,i6 0)] [] ?_))
 refine nl (sq (sg (xr0 3 [(12,aL A ops c),(13,i6 (ops.length:Int)),(14,i6 0)] [0] ?_)))
 refine nl (bk (X_loop (ι:=Nat×Nat×List ElA×(Nat→Prop)) (fun⟨i,n,pre,M⟩=>[(1,.func (.func 161) #[] #[pw gy 0]),(5,i6 (n:Int)),(12,aL A ops c),(13,i6 (ops.length:Int)),(14,i6 (i:Int))]) (fun⟨i,n,pre,M⟩ wl=>i≤ops.length∧pre.length=n∧n=(cellsAll (ops.take i)).length∧EOKn (cellsAll ops) pre wl.heap.size∧J pre M wl∧(∀ k,M k→k<gy∨gy+1≤k)∧RX.Blk wl gy 219 #[.func (.yield lp) #[] #[]]∧w.heap.size≤wl.heap.size∧kOp.R 102 wl b0 okD (aL A ops c) ops∧Below wo.heap.size wo wl) (fun⟨i,n,pre,M⟩=>ops.length-i) (0,0,[],M0) ⟨by omega,rfl,rfl,EOKn.nil _ _,hJ0,hgy,hy,(Nat.le_refl _),hx,hB⟩ (by kernel_rfl) ?_))
 rintro⟨i,n,pre,M⟩ wl ⟨hi,hpn,hnc,heok,hJ1,hgM,hk1,hn1,hx1,HB⟩
 have hgl:=hk1.lt
 refine sq (X_region ?_)
 by_cases c1:(i:Int)<(ops.length:Int)
 ·refine xr1 1 [(15,.eq bT)] [(15,bT)] [] (dT c1) ?_
  refine nl (sq (ct (sk (sq (bk (sq (X_region ?_)))))))
  obtain⟨ad2,B5,c6,a3,c4,l7,C8⟩:=Kd.atOp (Kd.R_C hx1) (i:=(i:Int)) (by omega) (by omega)
  replace c4:CellsAt wl (ad2.add ((i:Int).toNat*7)) (o7L (ops.getD i op0) (aL B5 (ops.getD i op0).attrs c6)):=c4
  replace l7:(ops.getD i op0).attrs.length≤c6:=l7
  replace C8:kAttr.C wl B5 ((ops.getD i op0).attrs.length) (ops.getD i op0).attrs:=C8
  refine xw 3 [(16,.idx ad2),(17,.load (.agg (o7A (ops.getD i op0) (aL B5 (ops.getD i op0).attrs c6))))] [(7,pw wl.heap.size 0),(17,.agg (o7A (ops.getD i op0) (aL B5 (ops.getD i op0).attrs c6)))] [15] (wl.alloc (.cells #[i6 0,s0,i6 0,i6 0,s0,i6 0,.slice none 0 0] 102)) [A=some ad2,(0:Int)≤(i:Int),(i:Int)<(ops.length:Int),la 102 (ad2.add ((i:Int).toNat*7)) (.agg (o7A (ops.getD i op0) (aL B5 (ops.getD i op0).attrs c6))) wl] ⟨a3,(by omega),(by omega),loadsE rfl rfl c4 0 ⟨by kernel_rfl,by kernel_rfl⟩,trivial⟩ ?_
  obtain⟨w9,w13,b10,k11,z12⟩:=new_world wl #[i6 0,s0,i6 0,i6 0,s0,i6 0,.slice none 0 0] 102
  rw[w13]
  refine xst (.agg (o7A (ops.getD i op0) (aL B5 (ops.getD i op0).attrs c6))) k11 0 (o7A (ops.getD i op0) (aL B5 (ops.getD i op0).attrs c6)) (fun w14 g15 k16 z17=>?_)
  refine nl (sg (xr 1 [(19,.load (.agg (o7A (ops.getD i op0) (aL B5 (ops.getD i op0).attrs c6))))] [(19,.agg (o7A (ops.getD i op0) (aL B5 (ops.getD i op0).attrs c6)))] [7,17] [la 102 (⟨wl.heap.size,0,none⟩) (.agg (o7A (ops.getD i op0) (aL B5 (ops.getD i op0).attrs c6))) w14] ⟨loadsB rfl rfl k16 0 ⟨by kernel_rfl,by kernel_rfl⟩,trivial⟩ ?_))
  refine xc 200 ent200 [.agg (o7A (ops.getD i op0) (aL B5 (ops.getD i op0).attrs c6))] (ccells_any (ops.getD i op0) _ _ _ (Kd.C_below C8 (bg b10 g15 (Nat.le_refl _))) (hz i (by omega)) (hT.below (bg (bt HB b10) g15 (HB).size)) es (hE.below (bg (bt HB b10) g15 (HB).size))) ?_
  rintro e w21 ⟨A18,c19,rfl,r20,b22⟩; refine⟨_,rfl,?_⟩
  have hrz_:=hr i (by omega); rw[show cellsO (ops.getD i op0)=cellsP (ops.getD i op0)from if_pos hrz_]at r20 ⊢; rw[hrz_]
  have hcap_:=cellsAll_take (xs:=ops) (i:=i) (by omega)
  have hcl_:(cellsAll (ops.take (i+1))).length≤(cellsAll ops).length:=cellsAll_le ops (i+1)
  rw[hcap_,List.length_append]at hcl_
  have hr9_:kCell.R 51 w21 w14.heap.size (fun k_=>w14.heap.size≤k_∧k_<w21.heap.size) (aL A18 (cellsP (ops.getD i op0)) c19) (cellsP (ops.getD i op0)):=Kd.R_mono (Kd.R_bound r20) (fun k_ hk_=>⟨hk_.2.1,hk_.2.2.1⟩)
  rw[errV_zero]
  refine xr0 5 [(8,aL A18 (cellsP (ops.getD i op0)) c19),(9,.nilIface)] [19,20] ?_
  refine nl (sq (sg (xr0 2 [(24,bF)] [9] ?_)))
  refine nl (cf (sk (sg (xe0 3 [(1,.func (.func 161) #[] #[pw gy 0]),(5,nv n),(12,aL A ops c),(13,i6 (ops.length:Int)),(14,nv i),(25,aL A18 (cellsP (ops.getD i op0)) c19),(26,i6 ((cellsP (ops.getD i op0)).length:Int)),(27,i6 0)] ?_))))
  refine nl (X_block ?_)
  have hlohi_:w14.heap.size≤w21.heap.size:=(b22).size
  have hwlo_:wl.heap.size≤w14.heap.size:=((bg b10 g15 (Nat.le_refl _))).size
  have hhiW_:w21.heap.size≤w21.heap.size:=(Nat.le_refl _)
  have B23:Below wl.heap.size wl w21:=(bt (bg b10 g15 (Nat.le_refl _)) b22)
  have B24:Below wo.heap.size wo w21:=(bt (bg (bt HB b10) g15 (HB).size) b22)
  refine X_loop (ι:=Nat×Nat×List ElA×(Nat→Prop)) (fun⟨j,n2,pre2,M2⟩=>[(1,.func (.func 161) #[] #[pw gy 0]),(5,i6 (n2:Int)),(12,aL A ops c),(13,i6 (ops.length:Int)),(14,i6 (i:Int)),(25,aL A18 (cellsP (ops.getD i op0)) c19),(26,i6 ((cellsP (ops.getD i op0)).length:Int)),(27,i6 (j:Int))]) (fun⟨j,n2,pre2,M2⟩ wk=>j≤(cellsP (ops.getD i op0)).length∧pre2.length=n2∧n2=(cellsAll (ops.take i)).length+j∧EOKn (cellsAll ops) pre2 wk.heap.size∧J pre2 M2 wk∧(∀ k,M2 k→k<gy∨gy+1≤k)∧(∀ k,M2 k→k<w14.heap.size∨w21.heap.size≤k)∧RX.Blk wk gy 219 #[.func (.yield lp) #[] #[]]∧w.heap.size≤wk.heap.size∧kOp.R 102 wk b0 okD (aL A ops c) ops∧kCell.R 51 wk w14.heap.size (fun k_=>w14.heap.size≤k_∧k_<w21.heap.size) (aL A18 (cellsP (ops.getD i op0)) c19) (cellsP (ops.getD i op0))∧w21.heap.size≤wk.heap.size∧Below wo.heap.size wo wk) (fun⟨j,n2,pre2,M2⟩=>(cellsP (ops.getD i op0)).length-j) (0,n,pre,M) ⟨by omega,hpn,by omega,(EOKn.mono heok (B23).size),(hJb _ _ _ _ B23 hJ1),hgM,(fun k_ h_=>.inl (Nat.lt_of_lt_of_le (hMb _ _ _ hJ1 k_ h_).2 hwlo_)),(Blk.below hk1 B23),(Nat.le_trans hn1 (B23).size),(Kd.R_below hx1 B23),hr9_,hhiW_,B24⟩ (by kernel_rfl) ?_
  rintro⟨j,n2,pre2,M2⟩ wk ⟨hj,hpn2,hnc2,heok2,hJ2,hgM2,hlo2,hk2,hn2,hx2,hr6,hhi2,HB2⟩
  have hgl2:=hk2.lt
  refine sq (X_region ?_)
  by_cases c25:(j:Int)<((cellsP (ops.getD i op0)).length:Int)
  ·refine xr1 1 [(28,.eq bT)] [(28,bT)] [] (dT c25) ?_
   refine nl (sq (ct (sk (sq (bk (sq (X_region ?_)))))))
   obtain⟨ad26,B29,c30,a27,c28,l31,C32⟩:=Kd.atCell (Kd.R_C hr6) (i:=(j:Int)) (by omega) (by omega)
   replace c28:CellsAt wk (ad26.add ((j:Int).toNat*6)) (c6L ((cellsP (ops.getD i op0)).getD j cell0) (aL B29 ((cellsP (ops.getD i op0)).getD j cell0).attrs c30)):=c28
   replace l31:((cellsP (ops.getD i op0)).getD j cell0).attrs.length≤c30:=l31
   replace C32:kAttr.C wk B29 (((cellsP (ops.getD i op0)).getD j cell0).attrs.length) ((cellsP (ops.getD i op0)).getD j cell0).attrs:=C32
   refine xw 3 [(29,.idx ad26),(30,.load (.agg (c6A ((cellsP (ops.getD i op0)).getD j cell0) (aL B29 ((cellsP (ops.getD i op0)).getD j cell0).attrs c30))))] [(11,pw wk.heap.size 0),(30,.agg (c6A ((cellsP (ops.getD i op0)).getD j cell0) (aL B29 ((cellsP (ops.getD i op0)).getD j cell0).attrs c30)))] [28] (wk.alloc (.cells #[.int .i32 0,s0,i6 0,i6 0,s0,.slice none 0 0] 51)) [A18=some ad26,(0:Int)≤(j:Int),(j:Int)<((cellsP (ops.getD i op0)).length:Int),la 51 (ad26.add ((j:Int).toNat*6)) (.agg (c6A ((cellsP (ops.getD i op0)).getD j cell0) (aL B29 ((cellsP (ops.getD i op0)).getD j cell0).attrs c30))) wk] ⟨a27,(by omega),(by omega),loadsE rfl rfl c28 0 ⟨by kernel_rfl,by kernel_rfl⟩,trivial⟩ ?_
   obtain⟨w33,w37,b34,k35,z36⟩:=new_world wk #[.int .i32 0,s0,i6 0,i6 0,s0,.slice none 0 0] 51
   rw[w37]
   refine xst (.agg (c6A ((cellsP (ops.getD i op0)).getD j cell0) (aL B29 ((cellsP (ops.getD i op0)).getD j cell0).attrs c30))) k35 0 (c6A ((cellsP (ops.getD i op0)).getD j cell0) (aL B29 ((cellsP (ops.getD i op0)).getD j cell0).attrs c30)) (fun w38 g39 k40 z41=>?_)
   refine nl (sq (sg (xr 3 [(33,.load (.agg (c6A ((cellsP (ops.getD i op0)).getD j cell0) (aL B29 ((cellsP (ops.getD i op0)).getD j cell0).attrs c30))))] [(31,.func (.func 161) #[] #[pw gy 0]),(32,nv n2),(33,.agg (c6A ((cellsP (ops.getD i op0)).getD j cell0) (aL B29 ((cellsP (ops.getD i op0)).getD j cell0).attrs c30)))] [11,30] [la 51 (⟨wk.heap.size,0,none⟩) (.agg (c6A ((cellsP (ops.getD i op0)).getD j cell0) (aL B29 ((cellsP (ops.getD i op0)).getD j cell0).attrs c30))) w38] ⟨loadsB rfl rfl k40 0 ⟨by kernel_rfl,by kernel_rfl⟩,trivial⟩ ?_)))
   have hrw_:=Kd.R_below hr6 (bg b34 g39 (Nat.le_refl _))
   have hjl_:j<(cellsP (ops.getD i op0)).length:=by omega
   have hcg_:((cellsP (ops.getD i op0)).getD j cell0)=(cellsAll ops).getD n2 cell0:=cellsAll_at (by omega) hjl_ (by omega)
   have hgo_:=(Blk.below hk2 (bg b34 g39 (Nat.le_refl _)))
   have hln_:((cellsP (ops.getD i op0)).getD j cell0).attrs.length≤100000000:=cellsP_len (hz i (by omega)) hjl_
   refine XL_callv 161 rfl rfl rfl ent161 #[pw gy 0] (by kernel_rfl) [i6 (n2:Int),.agg (c6A ((cellsP (ops.getD i op0)).getD j cell0) (aL B29 ((cellsP (ops.getD i op0)).getD j cell0).attrs c30))] (by kernel_rfl) (clo_any D lp gy n0 n2 Q _ ((cellsP (ops.getD i op0)).getD j cell0) _ pre2 M2 J Jx _ hgo_ (Kd.C_below C32 (bg b34 g39 (Nat.le_refl _))) hln_ (hJb _ _ _ _ (bg b34 g39 (Nat.le_refl _)) hJ2) hJb (Nat.le_trans hnw (Nat.le_trans hn2 ((bg b34 g39 (Nat.le_refl _))).size)) (fun k_ h_=>Nat.lt_of_lt_of_le (hD k_ h_) (Nat.le_trans hn2 ((bg b34 g39 (Nat.le_refl _))).size)) hpn2 (by omega) hY) ?_
   rintro e w42 ⟨x_,hx1_,hx2_,hxk_,(⟨rfl,M3_,hJ3_,hK3_,hM3_,hxl_⟩|⟨rfl,hJ3_⟩)⟩
   ·refine⟨_,rfl,?_⟩
    have heok3_:=EOKn.snoc (pre:=pre2) (x:=x_) (EOKn.mono heok2 ((bg b34 g39 (Nat.le_refl _))).size) (by omega) (by omega) (by rw[hx2_,hcg_,hpn2]) (fun k_ h_=>⟨hxk_ k_ h_,hxl_ k_ h_⟩) hK3_.size
    have hn3_:w.heap.size≤w42.heap.size:=Nat.le_trans (Nat.le_trans hn2 ((bg b34 g39 (Nat.le_refl _))).size) hK3_.size
    have hx3_:=hK3_.rowD (Kd.R_below hx2 (bg b34 g39 (Nat.le_refl _))) hokD
    have hB3_:Below wo.heap.size wo w42:=((bg (bt HB2 b34) g39 (HB2).size)).trans (hK3_.toBelow hwo)
    have hwk_:wk.heap.size≤w38.heap.size:=((bg b34 g39 (Nat.le_refl _))).size
    have hk3_:=hK3_.blk hgo_ (fun h_=>by have:=hgM2 _ h_; omega)
    have hgM3_:=new_apart hM3_ hgM2 (Nat.succ_le_of_lt (Blk.lt hgo_))
    have hlo3_:=new_apart hM3_ hlo2 (by omega)
    have hr3_:=hK3_.row hrw_ (fun k_ h1_ h2_=>by have:=hlo2 k_ h2_; omega)
    have hhi3_:w21.heap.size≤w42.heap.size:=by have:=hK3_.size; omega
    have hpn3_:(pre2++[x_]).length=n2+1:=by rw[List.length_append,List.length_singleton,hpn2]
    refine xr0 1 [(35,bF)] [31,32,33,34] ?_
    refine nl (cf (sk (X_region ?_)))
    refine xr 3 [(37,.eq (i6 ((n2+1:Nat):Int)))] [(5,i6 ((n2+1:Nat):Int))] [35] [i6 (IntKind.i64.wrap ((n2:Int)+1))=i6 ((n2+1:Nat):Int)] ⟨(by rw[show (n2:Int)+1=((n2+1:Nat):Int)from by omega]; exact wr_i64 (by omega) (by omega)),trivial⟩ ?_
    refine nl (rg (xe1 2 [(38,.eq (i6 ((j:Int)+1)))] [(1,.func (.func 161) #[] #[pw gy 0]),(5,i6 ((n2+1:Nat):Int)),(12,aL A ops c),(13,i6 (ops.length:Int)),(14,nv i),(25,aL A18 (cellsP (ops.getD i op0)) c19),(26,i6 ((cellsP (ops.getD i op0)).length:Int)),(27,i6 ((j:Int)+1))] (w6 ((j:Int)+1)) ?_))
    refine nl ?_
    refine⟨(j+1,n2+1,(pre2++[x_]),M3_),by kernel_rfl,?_,?_⟩
    ·exact⟨by omega,hpn3_,by omega,heok3_,hJ3_,hgM3_,hlo3_,hk3_,(Nat.le_trans hn3_ (Nat.le_refl _)),hx3_,hr3_,(Nat.le_trans hhi3_ (Nat.le_refl _)),hB3_⟩
    (try dsimp only); omega
   refine⟨_,rfl,?_⟩
   have heok3_:=EOK.snoc (pre:=pre2) (x:=x_) (EOKn.mono heok2 ((bg b34 g39 (Nat.le_refl _))).size) (by omega) (by omega) (by rw[hx2_,hcg_,hpn2]) hxk_
   refine xr0 1 [(35,bT)] [31,32,33,34] ?_
   refine nl (ct (sg (xe0 1 [(4,bF)] ?_)))
   refine nl (X_ret (rj [bF] hR_ ?_))
   exact .inr ⟨rfl,_,heok3_,hJ3_⟩
  refine xr1 1 [(28,.eq bF)] [(28,bF)] [] (dF c25) ?_
  refine nl (sq (cf (X_exit (rg (xr1 2 [(39,.eq (i6 ((i:Int)+1)))] [(14,i6 ((i:Int)+1))] [25,26,27,28] (w6 ((i:Int)+1)) ?_)))))
  refine nl ?_
  refine⟨(i+1,n2,pre2,M2),by kernel_rfl,?_,?_⟩
  ·exact⟨by omega,hpn2,by rw[cellsAll_take (by omega),List.length_append]; omega,heok2,hJ2,hgM2,hk2,(Nat.le_trans hn2 (Nat.le_refl _)),hx2,HB2⟩
  (try dsimp only); omega
 refine xr1 1 [(15,.eq bF)] [(15,bF)] [] (dF c1) ?_
 refine nl (sq (cf (X_exit (sg (xe0 1 [(4,bT)] ?_)))))
 refine nl (X_ret (rj [bT] hR_ ?_))
 obtain rfl:i=ops.length:=by omega
 rw[List.take_length]at hnc
 exact .inl ⟨rfl,pre,M,heok.1,by omega,hJ1⟩
theorem ceach_seq (D okD:Nat→Prop)(b0 g:Nat)(A:Option Addr)(c:Nat)(ops:List OpA)(wo w1:World)(hx:kOp.R 102 w1 b0 okD (.slice A ops.length c) ops)(hokD:∀ k,okD k→D k)(hwo:∀ k,k<wo.heap.size→D k)(hD:∀ k,D k→k<w1.heap.size)(hB:Below wo.heap.size wo w1)(hol:ops.length≤1000000000)(hr:∀ t,t<ops.length→refuseP (ops.getD t op0)=0)(hz:∀ t,t<ops.length→opSz (ops.getD t op0))(hT:Tabs wo)(es:List Addr)(hE:ErrsC wo es)(hk:RX.Blk w1 g 22 #[.slice A ops.length c])(hL:(cellsAll ops).length≤1000000000):
  SeqM D Tryz.prog 159 #[pw g 0] elV (fun xs=>EOK (cellsAll ops) xs∧xs.length=(cellsAll ops).length) (fun pre=>EOK (cellsAll ops) pre) (ElPx w1.heap.size) (cellsAll ops).length w1:=by
 intro lp J Jx M0 W hW hJ hJx hMb hY hJ0
 have hJb:∀ s M (X Y:World),Below X.heap.size X Y→J s M X→J s M Y:=fun s M X Y hb hj=>abides_below (hJ M) hb hj
 refine callsIn_wide.2 ?_
 rw[show (#[Value.func (.yield lp) #[] #[]]++#[pw g 0]:Array Value)=#[.func (.yield lp) #[] #[],pw g 0]from rfl]
 refine en Tryz.func159 rfl 6 [(0,.func (.yield lp) #[] #[]),(1,pw g 0)] (fun R_ hR_=>?_)
 refine sg (xwe 1 [] [(1,pw g 0),(2,pw W.heap.size 0)] (W.alloc (.cells #[.func (.yield lp) #[] #[]] 219)) [] trivial ?_)
 obtain⟨w_1,w5,b2,k3,z4⟩:=new_world W #[.func (.yield lp) #[] #[]] 219
 rw[w5]
 refine nl (rg (xe1 2 [(3,.load (aL A ops c))] [(3,aL A ops c),(4,.func (.func 161) #[] #[pw W.heap.size 0])] (lc 22 (Blk.below hk (bt hW b2)) 0) ?_))
 have hgw_:W.heap.size≤W.heap.size:=(Nat.le_refl _)
 refine xc 160 ent160 [.slice A ops.length c,.func (.func 161) #[] #[pw W.heap.size 0]] (told9_any D okD b0 lp W.heap.size w1.heap.size (cellsAll ops).length A c ops J Jx M0 wo _ (Kd.R_below hx (bt hW b2)) hokD hol hr hz hT es hE hwo (hB.trans (bel_lo2 (bt hW b2) hB.size)) ((bt hW b2)).size k3 (fun k_ h_=>.inl (Nat.lt_of_lt_of_le (hMb _ _ _ hJ0 k_ h_).2 hgw_)) (hJb _ _ _ _ b2 hJ0) hJb hMb (fun k_ h_=>Nat.lt_of_lt_of_le (hD k_ h_) ((bt hW b2)).size) hL (Nat.le_refl _) hY) ?_
 rintro e w_6 (⟨rfl,pre_,M_,hp1_,hp2_,hJ1_⟩|⟨rfl,pre_,hp1_,hJ1_⟩)
 ·refine⟨_,rfl,?_⟩
  refine nl (ek [] (hR_ _ _ ?_))
  exact⟨⟨_,rfl⟩,.inl ⟨_,_,⟨hp1_,hp2_⟩,hJ1_⟩⟩
 refine⟨_,rfl,?_⟩
 refine nl (ek [] (hR_ _ _ ?_))
 exact⟨⟨_,rfl⟩,.inr ⟨_,hp1_,hJ1_⟩⟩
theorem ent97 :Ent Tryz.prog 97:=ent_of Tryz.func97 (by kernel_rfl) rfl
theorem ceach_any (d:Nat)(xs:List OpA)(w:World)(hd:DeltaC w d xs)(hb:badE xs=0)(hn:xs.length≤1100000)(hz:∀ i,i<xs.length→opSz (xs.getD i op0)):Calls Tryz.prog 97 #[pw d 0] w fun e w'=>∃ g A' c' zs,zs=(if isDoc xs=true then xs else [])∧e=.returned (.func (.func 159) #[] #[pw g 0])∧w.heap.size≤g∧RX.Blk w' g 22 #[.slice A' zs.length c']∧kOp.R 102 w' w.heap.size (OkFrom w.heap.size) (.slice A' zs.length c') zs∧Below w.heap.size w w':=by
 refine en Tryz.func97 rfl 11 [(0,pw d 0)] (fun R_ hR_=>?_)
 refine sg (xe0 1 [(0,pw d 0)] ?_)
 refine nl (sg (xe0 1 [(6,pw d 0)] ?_))
 refine xc 96 ent96 [pw d 0] (inserts_any d xs _ hd hb hn hz) ?_
 rintro e w7 ⟨A1,c2,zs3,ez4,rfl,l5,r6,b8⟩; refine⟨_,rfl,?_⟩
 refine xwe 4 [] [(3,pw w7.heap.size 0),(8,aL A1 zs3 c2),(9,.bool (isDoc xs))] (w7.alloc (.cells #[.slice none 0 0] 22)) [] trivial ?_
 obtain⟨w9,w13,b10,k11,z12⟩:=new_world w7 #[.slice none 0 0] 22
 rw[w13]
 refine xst (aL A1 zs3 c2) k11 0 #[aL A1 zs3 c2] (fun w14 g15 k16 z17=>?_)
 have r18:=Kd.R_off (Kd.R_below r6 b10) k11 (by decide) g15
 refine xr0 1 [] [8,9] ?_
 refine nl (sg (xe0 2 [(2,.func (.func 159) #[] #[pw w7.heap.size 0])] ?_))
 refine nl (X_ret (rj [.func (.func 159) #[] #[pw w7.heap.size 0]] hR_ ?_))
 exact⟨_,_,_,zs3,ez4,rfl,(b8).size,k16,Kd.R_low r18 (Nat.le_refl _),(bg (bt b8 b10) g15 (b8).size)⟩
end Go.Proofs.YtgphmfnkeolbcaaGreatDoor
