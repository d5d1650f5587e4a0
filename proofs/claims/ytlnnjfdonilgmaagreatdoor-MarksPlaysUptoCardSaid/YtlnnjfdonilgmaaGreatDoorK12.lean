/- MarksPlays returns true. Conditions: sizes, the tables of utf8, the errors' variables. -/
import Derived.Test.YtlnnjfdonilgmaaGreatDoorK11
set_option linter.unusedVariables false
set_option linter.unusedSimpArgs false
set_option maxRecDepth 100000
namespace Go.Proofs.YtlnnjfdonilgmaaGreatDoor
open Go Go.RowKit Go.Proofs.YtlnnjfdonilgmaaGreatDoorW.PrintWords RX
theorem PI.step {gm gr:Nat}{wB w:World}{ms:List MarkA}{Q:Nat→Prop}(h:PI gm gr wB ms Q w)(o:MOp)(D:Option Addr)(dc:Nat)(hB:Below wB.heap.size wB w)(hx:kOp.C wB D o.ops.length o.ops)(hxc:o.ops.length≤dc)(hz:mopSz o)(hT:Tabs wB)(es:List Addr)(hE9:Errs wB es):
  Calls Tryz.prog 9 #[pw gm 0,pw gr 0,.agg #[i6 o.kind,.bool o.second,sT o.mark.1,i6 o.mark.2.1,i6 o.mark.2.2,i6 o.cells,aL D o.ops dc]] w fun e w'=>e=.returned bT∧∃ ms' Q',PI gm gr wB ms' Q' w'∧NewQ Q Q' w∧Chg Q w w':=step23_any gm gr wB ms Q o D dc w h hB hx hxc hz hT es hE9
theorem PI.mk0 {gm gr:Nat}{wB w:World}{Qm:Nat→Prop}(h:MI gm wB.heap.size [] Qm w)(hk:RX.Blk w gr 29 #[.slice none 0 0])(hg:wB.heap.size≤gr)(hB:wB.heap.size≤w.heap.size)(hn:¬Qm gr):PI gm gr wB [] (fun k=>Qm k∨k=gr) w:=
 ⟨Qm,fun k=>k=gr,h,⟨none,0,hk,Kd.R_nil _ _ _ _ _,funext fun k=>propext ⟨fun e=>.inl e,fun e=>e.elim id (fun e=>by cases e)⟩,hg,hB⟩,fun k h1 h2=>hn (h2▸h1),rfl⟩
set_option maxHeartbeats 2000000 in
theorem marksPlays_law (A:Option Addr)(c:Nat)(xs:List MOp)(wB:World)(hx:kMOp.C wB A xs.length xs)(hn:xs.length≤1048576)(hz:∀ i,i<xs.length→mopSz (xs.getD i mop0))(hT:Tabs wB)(es:List Addr)(hE9:Errs wB es):
  Calls Tryz.prog 3 #[aL A xs c] wB fun e w'=>e=.returned bT∧Below wB.heap.size wB w':=by
 have hE:ErrsM wB es:=hE9.on (by decide)
 refine en Tryz.func3 rfl 51 [(0,aL A xs c)] (fun R_ hR_=>?_)
 refine sg (xe0 1 [(0,aL A xs c)] ?_)
 refine nl (sq (sg (xc 7 ent7 [] (fixed23_any _ (hT.below (Below.refl _ _)) es (hE.below (Below.refl _ _))) ?_)))
 rintro e w1 ⟨rfl,b2⟩; refine⟨_,rfl,?_⟩
 refine xr0 1 [(11,bF)] [10] ?_
 refine nl (cf (sk (sg (xc 8 ent8 [] (MI.new _) ?_))))
 rintro e w7 ⟨g3,Q4,rfl,M5,b6⟩; refine⟨_,rfl,?_⟩
 have M8:MI g3 wB.heap.size [] Q4 w7:=MI.low M5 (b2).size
 refine xc 8 ent8 [] (MI.new _) ?_
 rintro e w13 ⟨g9,Q10,rfl,M11,b12⟩; refine⟨_,rfl,?_⟩
 have M14:MI g9 wB.heap.size [] Q10 w13:=MI.low M11 ((bt b2 b6)).size
 have d15:∀ k_,Q10 k_→¬Q4 k_:=fun k_ h1_ h2_=>absurd (M8.lt k_ h2_).2 (Nat.not_lt.2 (Nat.le_trans (Nat.le_refl _) (M11.lt k_ h1_).1))
 refine xr0 2 [(3,pw g3 0),(4,pw g9 0)] [11,12,13] ?_
 refine nl (sq (sg (xr0 6 [(19,bF)] [] ?_)))
 refine nl (cf (sk (sg (xw 2 [] [(21,pw w13.heap.size 0)] [19] (w13.alloc (.cells #[.slice none 0 0] 29)) [] trivial ?_))))
 obtain⟨w16,w20,b17,k18,z19⟩:=new_world w13 #[.slice none 0 0] 29
 rw[w20]
 refine xw 2 [] [(23,pw w16.heap.size 0)] [] (w16.alloc (.cells #[.slice none 0 0] 29)) [] trivial ?_
 obtain⟨w21,w25,b22,k23,z24⟩:=new_world w16 #[.slice none 0 0] 29
 rw[w25]
 refine xe0 2 [(0,aL A xs c),(3,pw g3 0),(4,pw g9 0),(5,pw w13.heap.size 0),(6,pw w16.heap.size 0)] ?_
 refine nl (sq (sg (xr0 3 [(24,aL A xs c),(25,i6 (xs.length:Int)),(26,i6 0)] [0] ?_)))
 refine nl (X_block ?_)
 have B27:Below wB.heap.size wB w21:=(bt (bt (bt (bt b2 b6) b12) b17) b22)
 have P26:=PI.mk0 (M8.below (bt (bt b12 b17) b22)) (Blk.below k18 b22) ((bt (bt b2 b6) b12)).size (B27).size (fun h_=>absurd (M8.lt _ h_).2 (Nat.not_lt.2 (b12).size))
 have P28:=PI.mk0 (M14.below (bt b17 b22)) k23 ((bt (bt (bt b2 b6) b12) b17)).size (B27).size (fun h_=>absurd (M14.lt _ h_).2 (Nat.not_lt.2 (b17).size))
 have hlt_hd_29:w13.heap.size<w16.heap.size:=Nat.lt_of_lt_of_le (Blk.lt k18) (Nat.le_refl _)
 have d29:∀ k,(fun k=>Q4 k∨k=w13.heap.size) k→¬(fun k=>Q10 k∨k=w16.heap.size) k:=fun k_ h1_ h2_=>by rcases h1_ with h1_|h1_<;>rcases h2_ with h2_|h2_; (· exact(fun k_ h1_ h2_=>d15 k_ h2_ h1_) k_ h1_ h2_); (· rw[h2_]at h1_; exact(fun h_=>absurd (M8.lt _ h_).2 (Nat.not_lt.2 ((bt b12 b17)).size)) h1_); (· rw[h1_]at h2_; exact(fun h_=>absurd (M14.lt _ h_).2 (Nat.not_lt.2 (Nat.le_refl _))) h2_); (· omega)
 refine X_loop (ι:=Nat×List MarkA×List MarkA×(Nat→Prop)×(Nat→Prop)) (fun⟨i,ms1_,ms2_,Q1_,Q2_⟩=>[(3,pw g3 0),(4,pw g9 0),(5,pw w13.heap.size 0),(6,pw w16.heap.size 0),(24,aL A xs c),(25,i6 (xs.length:Int)),(26,i6 (i:Int))]) (fun⟨i,ms1_,ms2_,Q1_,Q2_⟩ wl=>i≤xs.length∧PI g3 w13.heap.size wB ms1_ Q1_ wl∧PI g9 w16.heap.size wB ms2_ Q2_ wl∧(∀ k,Q1_ k→¬Q2_ k)∧Below wB.heap.size wB wl) (fun⟨i,ms1_,ms2_,Q1_,Q2_⟩=>xs.length-i) (0,[],[],(fun k=>Q4 k∨k=w13.heap.size),(fun k=>Q10 k∨k=w16.heap.size)) ⟨Nat.zero_le _,P26,P28,d29,B27⟩ (by kernel_rfl) ?_
 rintro⟨i,ms1_,ms2_,Q1_,Q2_⟩ wl ⟨hi,hP1_,hP2_,hd12_,HB⟩
 refine sq (X_region ?_)
 by_cases c30:(i:Int)<(xs.length:Int)
 ·refine xr1 1 [(27,.eq bT)] [(27,bT)] [] (dT c30) ?_
  refine nl (sq (ct (sk (sq (bk (sq (X_region ?_)))))))
  obtain⟨ad31,B34,c35,a32,c33,l36,C37⟩:=Kd.atMOp hx (i:=(i:Int)) (by omega) (by omega)
  replace c33:CellsAt wl (ad31.add ((i:Int).toNat*7)) [i6 ((xs.getD i mop0).kind),.bool ((xs.getD i mop0).second),sT ((xs.getD i mop0).mark.1),i6 ((xs.getD i mop0).mark.2.1),i6 ((xs.getD i mop0).mark.2.2),i6 ((xs.getD i mop0).cells),aL B34 (xs.getD i mop0).ops c35]:=cells_below c33 HB
  replace l36:(xs.getD i mop0).ops.length≤c35:=l36
  replace C37:kOp.C wB B34 (xs.getD i mop0).ops.length (xs.getD i mop0).ops:=C37
  refine xw 3 [(28,.idx ad31),(29,.load (.agg #[i6 ((xs.getD i mop0).kind),.bool ((xs.getD i mop0).second),sT ((xs.getD i mop0).mark.1),i6 ((xs.getD i mop0).mark.2.1),i6 ((xs.getD i mop0).mark.2.2),i6 ((xs.getD i mop0).cells),aL B34 (xs.getD i mop0).ops c35]))] [(8,pw wl.heap.size 0),(29,.agg #[i6 ((xs.getD i mop0).kind),.bool ((xs.getD i mop0).second),sT ((xs.getD i mop0).mark.1),i6 ((xs.getD i mop0).mark.2.1),i6 ((xs.getD i mop0).mark.2.2),i6 ((xs.getD i mop0).cells),aL B34 (xs.getD i mop0).ops c35])] [27] (wl.alloc (.cells #[i6 0,bF,s0,i6 0,i6 0,i6 0,.slice none 0 0] 34)) [A=some ad31,(0:Int)≤(i:Int),(i:Int)<(xs.length:Int),la 34 (ad31.add ((i:Int).toNat*7)) (.agg #[i6 ((xs.getD i mop0).kind),.bool ((xs.getD i mop0).second),sT ((xs.getD i mop0).mark.1),i6 ((xs.getD i mop0).mark.2.1),i6 ((xs.getD i mop0).mark.2.2),i6 ((xs.getD i mop0).cells),aL B34 (xs.getD i mop0).ops c35]) wl] ⟨a32,(by omega),(by omega),loadsE rfl rfl c33 0 ⟨by kernel_rfl,by kernel_rfl⟩,trivial⟩ ?_
  obtain⟨w38,w42,b39,k40,z41⟩:=new_world wl #[i6 0,bF,s0,i6 0,i6 0,i6 0,.slice none 0 0] 34
  rw[w42]
  refine xst (.agg #[i6 ((xs.getD i mop0).kind),.bool ((xs.getD i mop0).second),sT ((xs.getD i mop0).mark.1),i6 ((xs.getD i mop0).mark.2.1),i6 ((xs.getD i mop0).mark.2.2),i6 ((xs.getD i mop0).cells),aL B34 (xs.getD i mop0).ops c35]) k40 0 #[i6 ((xs.getD i mop0).kind),.bool ((xs.getD i mop0).second),sT ((xs.getD i mop0).mark.1),i6 ((xs.getD i mop0).mark.2.1),i6 ((xs.getD i mop0).mark.2.2),i6 ((xs.getD i mop0).cells),aL B34 (xs.getD i mop0).ops c35] (fun w43 g44 k45 z46=>?_)
  refine nl (sg (xr0 1 [] [29] ?_))
  refine nl (sq (sg (xr1 2 [(31,.load (.bool ((xs.getD i mop0).second)))] [(31,.bool ((xs.getD i mop0).second))] [] (lc 4 k45 1) ?_)))
  refine nl ?_
  by_cases c47:(xs.getD i mop0).second=true
  ·rw[show ((xs.getD i mop0).second:Bool)=true from by simpa using c47]
   refine ct (rg (xr 3 [(34,.load (.agg #[i6 ((xs.getD i mop0).kind),.bool ((xs.getD i mop0).second),sT ((xs.getD i mop0).mark.1),i6 ((xs.getD i mop0).mark.2.1),i6 ((xs.getD i mop0).mark.2.2),i6 ((xs.getD i mop0).cells),aL B34 (xs.getD i mop0).ops c35]))] [(32,pw g9 0),(33,pw w16.heap.size 0),(34,.agg #[i6 ((xs.getD i mop0).kind),.bool ((xs.getD i mop0).second),sT ((xs.getD i mop0).mark.1),i6 ((xs.getD i mop0).mark.2.1),i6 ((xs.getD i mop0).mark.2.2),i6 ((xs.getD i mop0).cells),aL B34 (xs.getD i mop0).ops c35])] [8,31] [la 34 (⟨wl.heap.size,0,none⟩) (.agg #[i6 ((xs.getD i mop0).kind),.bool ((xs.getD i mop0).second),sT ((xs.getD i mop0).mark.1),i6 ((xs.getD i mop0).mark.2.1),i6 ((xs.getD i mop0).mark.2.2),i6 ((xs.getD i mop0).cells),aL B34 (xs.getD i mop0).ops c35]) w43] ⟨loadsB rfl rfl k45 0 ⟨by kernel_rfl,by kernel_rfl⟩,trivial⟩ ?_))
   have O54:=(hP2_.below (bg b39 g44 (Nat.le_refl _)))
   refine xc 9 ent9 [pw g9 0,pw w16.heap.size 0,.agg #[i6 ((xs.getD i mop0).kind),.bool ((xs.getD i mop0).second),sT ((xs.getD i mop0).mark.1),i6 ((xs.getD i mop0).mark.2.1),i6 ((xs.getD i mop0).mark.2.2),i6 ((xs.getD i mop0).cells),aL B34 (xs.getD i mop0).ops c35]] (O54.step (xs.getD i mop0) _ _ (bg (bt HB b39) g44 (HB).size) C37 l36 (hz _ (by omega)) hT es hE9) ?_
   rintro e w49 ⟨rfl,ms48,Q52,M50,N53,C51⟩; refine⟨_,rfl,?_⟩
   have hlo55:Below wB.heap.size w43 w49:=C51.lo ((bg (bt HB b39) g44 (HB).size)).size (fun g_ h_=>(O54.lt g_ h_).1)
   have hno57:¬Q52 wl.heap.size:=N53.no (fun h_=>absurd (hP2_.lt _ h_).2 (Nat.not_lt.2 (Nat.le_refl _))) (Blk.lt k45)
   have O58:=(hP1_.below (bg b39 g44 (Nat.le_refl _))).far C51 hd12_
   have d59:=N53.apart (fun k_ h1_ h2_=>hd12_ k_ h2_ h1_) (fun k_ h_=>((hP1_.below (bg b39 g44 (Nat.le_refl _))).lt k_ h_).2)
   refine xe0 1 [(3,pw g3 0),(4,pw g9 0),(5,pw w13.heap.size 0),(6,pw w16.heap.size 0),(9,bT),(24,aL A xs c),(25,i6 (xs.length:Int)),(26,nv i)] ?_
   refine nl (sg (xr0 2 [(41,bF)] [9] ?_))
   refine nl (cf (sk (rg (xr1 2 [(42,.eq (i6 ((i:Int)+1)))] [(26,i6 ((i:Int)+1))] [41] (w6 ((i:Int)+1)) ?_))))
   refine nl ?_
   have B60:Below wB.heap.size wB w49:=(Below.trans (bg (bt HB b39) g44 (HB).size) hlo55)
   refine⟨(i+1,ms1_,ms48,Q1_,Q52),by kernel_rfl,?_,?_⟩
   ·exact⟨by omega,O58,M50,(fun k_ h1_ h2_=>d59 k_ h2_ h1_),B60⟩
   (try dsimp only); omega
  rw[show ((xs.getD i mop0).second:Bool)=false from by simpa using c47]
  refine cf (rg (xr 3 [(38,.load (.agg #[i6 ((xs.getD i mop0).kind),.bool ((xs.getD i mop0).second),sT ((xs.getD i mop0).mark.1),i6 ((xs.getD i mop0).mark.2.1),i6 ((xs.getD i mop0).mark.2.2),i6 ((xs.getD i mop0).cells),aL B34 (xs.getD i mop0).ops c35]))] [(36,pw g3 0),(37,pw w13.heap.size 0),(38,.agg #[i6 ((xs.getD i mop0).kind),.bool ((xs.getD i mop0).second),sT ((xs.getD i mop0).mark.1),i6 ((xs.getD i mop0).mark.2.1),i6 ((xs.getD i mop0).mark.2.2),i6 ((xs.getD i mop0).cells),aL B34 (xs.getD i mop0).ops c35])] [8,31] [la 34 (⟨wl.heap.size,0,none⟩) (.agg #[i6 ((xs.getD i mop0).kind),.bool ((xs.getD i mop0).second),sT ((xs.getD i mop0).mark.1),i6 ((xs.getD i mop0).mark.2.1),i6 ((xs.getD i mop0).mark.2.2),i6 ((xs.getD i mop0).cells),aL B34 (xs.getD i mop0).ops c35]) w43] ⟨loadsB rfl rfl k45 0 ⟨by kernel_rfl,by kernel_rfl⟩,trivial⟩ ?_))
  have O67:=(hP1_.below (bg b39 g44 (Nat.le_refl _)))
  refine xc 9 ent9 [pw g3 0,pw w13.heap.size 0,.agg #[i6 ((xs.getD i mop0).kind),.bool ((xs.getD i mop0).second),sT ((xs.getD i mop0).mark.1),i6 ((xs.getD i mop0).mark.2.1),i6 ((xs.getD i mop0).mark.2.2),i6 ((xs.getD i mop0).cells),aL B34 (xs.getD i mop0).ops c35]] (O67.step (xs.getD i mop0) _ _ (bg (bt HB b39) g44 (HB).size) C37 l36 (hz _ (by omega)) hT es hE9) ?_
  rintro e w62 ⟨rfl,ms61,Q65,M63,N66,C64⟩; refine⟨_,rfl,?_⟩
  have hlo68:Below wB.heap.size w43 w62:=C64.lo ((bg (bt HB b39) g44 (HB).size)).size (fun g_ h_=>(O67.lt g_ h_).1)
  have hno70:¬Q65 wl.heap.size:=N66.no (fun h_=>absurd (hP1_.lt _ h_).2 (Nat.not_lt.2 (Nat.le_refl _))) (Blk.lt k45)
  have O71:=(hP2_.below (bg b39 g44 (Nat.le_refl _))).far C64 (fun k_ h1_ h2_=>hd12_ k_ h2_ h1_)
  have d72:=N66.apart hd12_ (fun k_ h_=>((hP2_.below (bg b39 g44 (Nat.le_refl _))).lt k_ h_).2)
  refine xe0 1 [(3,pw g3 0),(4,pw g9 0),(5,pw w13.heap.size 0),(6,pw w16.heap.size 0),(9,bT),(24,aL A xs c),(25,i6 (xs.length:Int)),(26,nv i)] ?_
  refine nl (sg (xr0 2 [(41,bF)] [9] ?_))
  refine nl (cf (sk (rg (xr1 2 [(42,.eq (i6 ((i:Int)+1)))] [(26,i6 ((i:Int)+1))] [41] (w6 ((i:Int)+1)) ?_))))
  refine nl ?_
  have B73:Below wB.heap.size wB w62:=(Below.trans (bg (bt HB b39) g44 (HB).size) hlo68)
  refine⟨(i+1,ms61,ms2_,Q65,Q2_),by kernel_rfl,?_,?_⟩
  ·exact⟨by omega,M63,O71,d72,B73⟩
  (try dsimp only); omega
 refine xr1 1 [(27,.eq bF)] [(27,bF)] [] (dF c30) ?_
 refine nl (sq (cf (X_exit (sg (xr0 2 [(43,pw g3 0),(44,pw w13.heap.size 0)] [3,5,24,25,26,27] ?_)))))
 refine xc 10 ent10 [pw g3 0,pw w13.heap.size 0] (hP1_.tells) ?_
 rintro e w74 ⟨rfl,b75⟩; refine⟨_,rfl,?_⟩
 refine xe0 3 [(46,bT),(47,pw g9 0),(48,pw w16.heap.size 0)] ?_
 refine xc 10 ent10 [pw g9 0,pw w16.heap.size 0] ((hP2_.below b75).tells) ?_
 rintro e w76 ⟨rfl,b77⟩; refine⟨_,rfl,?_⟩
 refine xe0 2 [(2,bT)] ?_
 refine nl (X_ret (rj [bT] hR_ ?_))
 exact⟨rfl,(bt (bt HB b75) b77)⟩
end Go.Proofs.YtlnnjfdonilgmaaGreatDoor
