import Derived.Test.YtlnnjfdonilgmaaGreatDoorParts
import Derived.Test.YtlnnjfdonilgmaaGreatDoorT5
import Derived.Test.YtlnnjfdonilgmaaGreatDoorO3
import Derived.Test.YtlnnjfdonilgmaaGreatDoorK8
/- vellumlaw23: of, step. Conditions: sizes, the tables of utf8, the errors' variables. -/
set_option linter.unusedVariables false
set_option linter.unusedSimpArgs false
set_option maxRecDepth 100000
namespace Go.Proofs.YtlnnjfdonilgmaaGreatDoor
open Go Go.RowKit Go.Proofs.YtlnnjfdonilgmaaGreatDoorW.PrintWords RX
theorem ent11 :Ent Tryz.prog 11:=ent_of Tryz.func11 (by kernel_rfl) rfl
theorem ent9 :Ent Tryz.prog 9:=ent_of Tryz.func9 (by kernel_rfl) rfl
theorem DeltaR_low {w:World}{Bs B1 d:Nat}{A:Option Addr}{c:Nat}{xs:List OpA}(h:DeltaR w Bs d A c xs)(hb:B1≤Bs):DeltaR w B1 d A c xs:=⟨Nat.le_trans hb h.1,h.2.1,Kd.R_low h.2.2 hb⟩
theorem bof_can (A:Option Addr)(c:Nat)(xs:List OpA)(w:World)(hc:Can xs)(hx:kOp.C w A xs.length xs)(hxc:xs.length≤c)(hn:xs.length≤1100000)(hz:∀ i,i<xs.length→opSz (xs.getD i op0))(ht:B.txS xs≤50000000)(hT:Tabs w)(es:List Addr)(hE:ErrsO w es):
  Calls Tryz.prog 32 #[aL A xs c] w fun e w'=>∃ d A' c',e=.returned (.tuple #[pw d 0,i6 0,.nilIface])∧DeltaR w' w.heap.size d A' c' xs∧Below w.heap.size w w':=by
 obtain⟨h1,h2,h3,_,_⟩:=B.of_can hc
 refine(bof_any A c xs w hx hxc hn hz ht hT es hE).mono fun e w' ⟨hb,h⟩=>?_
 rw[B.can_fix hc]at h
 rcases h with ⟨_,d,A',c',k1,k2⟩|⟨k1,_⟩
 ·exact⟨d,A',c',k1,k2,hb⟩
 exact absurd (by rw[B.bOf_of h1 h2 h3]) k1
theorem lof_any (A:Option Addr)(c:Nat)(xs:List OpA)(w:World)(hx:kOp.C w A xs.length xs)(hxc:xs.length≤c)(hn:xs.length≤1100000)(hz:∀ i,i<xs.length→opSz (xs.getD i op0))(ht:B.txS xs≤50000000)(hT:Tabs w)(es:List Addr)(hE:ErrsM w es):
  Calls Tryz.prog 11 #[aL A xs c] w fun e w'=>Below w.heap.size w w'∧((Can xs∧badE xs=0∧∃ d A' c',e=.returned (pw d 0)∧DeltaR w' w.heap.size d A' c' xs)∨(¬Can xs∧e=.returned (.pointer none))):=by
 refine en Tryz.func11 rfl 18 [(0,aL A xs c)] (fun R_ hR_=>?_)
 refine sg (xe0 1 [(0,aL A xs c)] ?_)
 refine nl (sq (sg (xr0 1 [(6,aL A xs c)] [] ?_)))
 refine xc 31 ent31 [aL A xs c] (r5can_any _ _ xs _ hx (by omega) hz (hT.below (Below.refl _ _))) ?_
 rintro e w1 ⟨rfl,b2⟩; refine⟨_,rfl,?_⟩
 by_cases c3:canP xs=true
 ·rw[show (canP xs:Bool)=true from by simpa using c3]
  refine xr0 1 [(8,bF)] [6,7] ?_
  refine nl (cf (sk (sg (xe0 1 [(10,aL A xs c)] ?_))))
  have hcan_:=(canP_iff xs).1 c3
  refine xc 32 ent32 [aL A xs c] (bof_can _ _ xs _ hcan_ (Kd.C_below hx b2) hxc hn hz ht (hT.below b2) es ((hE.sub (by decide):ErrsO w es).below b2)) ?_
  rintro e w8 ⟨d4,A5,c6,rfl,d7,b9⟩; refine⟨_,rfl,?_⟩
  refine xe0 7 [(3,pw d4 0),(5,.nilIface)] ?_
  refine nl (sq (sg (xr0 2 [(16,bF)] [5] ?_)))
  refine nl (cf (sk (sg (xe0 2 [(2,pw d4 0)] ?_))))
  refine nl (X_ret (rj [pw d4 0] hR_ ?_))
  exact⟨(bt b2 b9),.inl ⟨hcan_,(B.of_can hcan_).1,_,_,_,rfl,DeltaR_low d7 (b2).size⟩⟩
 rw[show (canP xs:Bool)=false from by simpa using c3]
 refine xr0 1 [(8,bT)] [6,7] ?_
 refine nl (ct (sg (xe0 1 [(2,.pointer none)] ?_)))
 refine nl (X_ret (rj [.pointer none] hR_ ?_))
 exact⟨b2,.inr ⟨fun h_=>c3 ((canP_iff xs).2 h_),rfl⟩⟩
set_option maxHeartbeats 2000000 in
theorem step23_any (gm gr:Nat)(wB:World)(ms:List MarkA)(Q:Nat→Prop)(o:MOp)(D:Option Addr)(dc:Nat)(w:World)(hP:PI gm gr wB ms Q w)(hB:Below wB.heap.size wB w)(hx:kOp.C wB D o.ops.length o.ops)(hxc:o.ops.length≤dc)(hz:mopSz o)(hT:Tabs wB)(es:List Addr)(hE9:Errs wB es):
  Calls Tryz.prog 9 #[pw gm 0,pw gr 0,.agg #[i6 o.kind,.bool o.second,sT o.mark.1,i6 o.mark.2.1,i6 o.mark.2.2,i6 o.cells,aL D o.ops dc]] w fun e w'=>e=.returned bT∧∃ ms' Q',PI gm gr wB ms' Q' w'∧NewQ Q Q' w∧Chg Q w w':=by
 obtain⟨Qm,Qr,hM,hR,hd,rfl⟩:=hP
 obtain⟨hz1,hz2,hz3,hz4⟩:=hz
 have hE:ErrsM wB es:=hE9.on (by decide)
 have hmn:=hM.n
 refine en Tryz.func9 rfl 100 [(0,pw gm 0),(1,pw gr 0),(2,.agg #[i6 o.kind,.bool o.second,sT o.mark.1,i6 o.mark.2.1,i6 o.mark.2.2,i6 o.cells,aL D o.ops dc])] (fun R_ hR_=>?_)
 refine sg (xwe 1 [] [(0,pw gm 0),(1,pw gr 0),(5,pw w.heap.size 0)] (w.alloc (.cells #[i6 o.kind,.bool o.second,sT o.mark.1,i6 o.mark.2.1,i6 o.mark.2.2,i6 o.cells,aL D o.ops dc] 34)) [] trivial ?_)
 obtain⟨w1,w5,b2,k3,z4⟩:=new_world w #[i6 o.kind,.bool o.second,sT o.mark.1,i6 o.mark.2.1,i6 o.mark.2.2,i6 o.cells,aL D o.ops dc] 34
 rw[w5]
 refine xr0 1 [] [] ?_
 refine nl (sq (sg (xr1 2 [(13,.load (i6 o.kind))] [(13,i6 o.kind)] [] (lc 3 k3 0) ?_)))
 refine nl (bk (sq (X_region ?_)))
 by_cases c6:o.kind=1
 ·refine xr1 2 [(15,.eq bT)] [(14,bT)] [] (bE c6) ?_
  refine nl (ct (sq (X_gen (S:=fun w_=>RX.Blk w_ w.heap.size 34 #[i6 o.kind,.bool o.second,sT o.mark.1,i6 o.mark.2.1,i6 o.mark.2.2,i6 o.cells,aL D o.ops dc]) [] 15 (tf 0 15) (by kernel_rfl) (by kernel_rfl) (by kernel_rfl) (fun wd7 b8 h9=>?_))))
  refine XG_runC (fuel':=5) (Blk.below k3 b8) [0,1,2,3,4,7,8,9,10,11] [(18,.load (.agg #[sT o.mark.1,i6 o.mark.2.1,i6 o.mark.2.2])),(20,.load (i6 o.cells)),(25,.load (.agg #[sT o.mark.1,i6 o.mark.2.1,i6 o.mark.2.2])),(27,.load (i6 o.cells))] [pw gm 0,pw w.heap.size 2,.agg #[sT o.mark.1,i6 o.mark.2.1,i6 o.mark.2.2],pw w.heap.size 5,i6 o.cells,pw gr 0,pw w.heap.size 2,.agg #[sT o.mark.1,i6 o.mark.2.1,i6 o.mark.2.2],pw w.heap.size 5,i6 o.cells] #[true,true,true,true,true,false,false,true,true,true,true,true,false,false,false] [(16,pw gm 0),(18,.agg #[sT o.mark.1,i6 o.mark.2.1,i6 o.mark.2.2]),(20,i6 o.cells),(23,pw gr 0),(25,.agg #[sT o.mark.1,i6 o.mark.2.1,i6 o.mark.2.2]),(27,i6 o.cells)] [0,1,5,13,14] (fun w_=>[la 31 (⟨w.heap.size,2,none⟩) (.agg #[sT o.mark.1,i6 o.mark.2.1,i6 o.mark.2.2]) w_,la 3 (⟨w.heap.size,5,none⟩) (i6 o.cells) w_,la 31 (⟨w.heap.size,2,none⟩) (.agg #[sT o.mark.1,i6 o.mark.2.1,i6 o.mark.2.2]) w_,la 3 (⟨w.heap.size,5,none⟩) (i6 o.cells) w_]) (fun w_ hC_=>⟨loadsB rfl rfl hC_ 2 ⟨by kernel_rfl,by kernel_rfl⟩,loads1 rfl (Blk.cell hC_ 5 _ rfl),loadsB rfl rfl hC_ 2 ⟨by kernel_rfl,by kernel_rfl⟩,loads1 rfl (Blk.cell hC_ 5 _ rfl),trivial⟩) ?_
  refine XG_mid (fuel':=4) 5 #[true,true,true,true,true,true,false,true,true,true,true,true,false,false,false] _ rfl (by kernel_rfl) (by kernel_rfl) rfl ?_
  have O15:=(hM.below (bt b2 b8))
  refine xc 15 ent15 [pw gm 0,.agg #[sT o.mark.1,i6 o.mark.2.1,i6 o.mark.2.2],i6 o.cells] (O15.set o.mark o.cells (by omega) (hT.below (bt (bt hB b2) b8)) es (hE.below (bt (bt hB b2) b8))) ?_
  rintro e w10 ⟨rfl,M11,C12⟩; refine⟨_,rfl,?_⟩
  have hlo16:Below wB.heap.size wd7 w10:=C12.lo ((bt (bt hB b2) b8)).size (fun g_ h_=>(O15.lt g_ h_).1)
  have k17:=C12.blk (Blk.below k3 b8) (fun h_=>absurd (hM.lt _ h_).2 (Nat.not_lt.2 (Nat.le_refl _)))
  have hno18:¬Qm w.heap.size:=(fun h_=>absurd (hM.lt _ h_).2 (Nat.not_lt.2 (Nat.le_refl _)))
  have O19:=(hR.below (bt b2 b8)).far C12 (fun k_ h1_ h2_=>hd k_ h2_ h1_)
  refine nl ?_
  refine⟨k17,?_⟩
  refine XG_mid (fuel':=3) 6 (tf 12 3) _ rfl (by kernel_rfl) (by kernel_rfl) rfl ?_
  have B20:Below wB.heap.size wB w10:=(Below.trans (bt (bt hB b2) b8) hlo16)
  refine xc 21 ent21 [errV es (sCode ms o.mark o.cells)] (num_any es (sCode ms o.mark o.cells) (by exact code_le _ _ _) _ (hE9.below B20)) ?_
  rintro e w21 ⟨rfl,b22⟩; refine⟨_,rfl,?_⟩
  refine nl ?_
  refine⟨(Blk.below k17 b22),?_⟩
  refine XG_mid (fuel':=2) 12 (tf 13 2) _ rfl (by kernel_rfl) (by kernel_rfl) rfl ?_
  have O28:=(O19.below b22)
  refine xc 27 ent27 [pw gr 0,.agg #[sT o.mark.1,i6 o.mark.2.1,i6 o.mark.2.2],i6 o.cells] (O28.set (by omega) o.mark o.cells) ?_
  rintro e w23 ⟨rfl,Q26,M24,N27,C25⟩; refine⟨_,rfl,?_⟩
  have hlo29:Below wB.heap.size w21 w23:=C25.lo ((bt B20 b22)).size (fun g_ h_=>(O28.lt g_ h_).1)
  have k30:=C25.blk (Blk.below k17 b22) (fun h_=>absurd (hR.lt _ h_).2 (Nat.not_lt.2 (Nat.le_refl _)))
  have hno31:¬Q26 w.heap.size:=N27.no (fun h_=>absurd (hR.lt _ h_).2 (Nat.not_lt.2 (Nat.le_refl _))) (Blk.lt (Blk.below k17 b22))
  have O32:=(M11.below b22).far C25 hd
  have d33:=N27.apart (fun k_ h1_ h2_=>hd k_ h2_ h1_) (fun k_ h_=>((M11.below b22).lt k_ h_).2)
  refine nl ?_
  refine⟨k30,?_⟩
  by_cases c34:((sCode ms o.mark o.cells):Int)=(sCode ms o.mark o.cells:Int)
  ·refine XG_run (fuel':=0) k30 [13,14] [(29,.eq bT)] [bT,bT] (tf 15 0) [(6,bT)] (fun w_=>[Value.bool (((sCode ms o.mark o.cells):Int)==(sCode ms o.mark o.cells:Int))=bT]) (fun w_ hC_=>⟨congrArg Value.bool (beq_iff_eq.2 (c34)),trivial⟩) ?_
   refine XG_done (by kernel_rfl) ?_
   refine X_ret (rj [bT] hR_ ?_)
   exact⟨rfl,(sMs ms o.mark o.cells),_,⟨Qm,Q26,O32,M24,(fun k_ h1_ h2_=>d33 k_ h2_ h1_),rfl⟩,fun k_ hk_=>hk_.elim (fun e_=>.inl (.inl e_)) (fun e_=>(N27 _ e_).imp .inr (fun h_=>Nat.le_trans (Nat.le_trans (Nat.le_trans (Nat.le_trans b2.size b8.size) hlo16.size) b22.size) h_)),(Chg.trans (S':=(fun k=>Qm k∨Qr k)) (Chg.trans (S':=(fun k=>Qm k∨Qr k)) (Chg.trans (S':=(fun k=>Qm k∨Qr k)) (Chg.trans (S':=(fun k=>Qm k∨Qr k)) (Chg.below b2) (Chg.below b8) (fun _ _ h_=>h_)) (C12.imp (fun k_ h_=>.inl h_)) (fun _ _ h_=>h_)) (Chg.below b22) (fun _ _ h_=>h_)) (C25.imp (fun k_ h_=>.inr h_)) (fun _ _ h_=>h_))⟩
  exact absurd rfl c34
 refine xr1 2 [(15,.eq bF)] [(14,bF)] [] (bN c6) ?_
 refine nl (cf (sq (X_region ?_)))
 by_cases c35:o.kind=2
 ·refine xr1 2 [(31,.eq bT)] [(30,bT)] [14] (bE c35) ?_
  refine nl (ct (sq (X_gen (S:=fun w_=>RX.Blk w_ w.heap.size 34 #[i6 o.kind,.bool o.second,sT o.mark.1,i6 o.mark.2.1,i6 o.mark.2.2,i6 o.cells,aL D o.ops dc]) [] 13 (tf 0 13) (by kernel_rfl) (by kernel_rfl) (by kernel_rfl) (fun wd36 b37 h38=>?_))))
  refine XG_runC (fuel':=5) (Blk.below k3 b37) [0,1,2,3,6,7,8,9] [(35,.load (sT o.mark.1)),(41,.load (sT o.mark.1))] [pw gm 0,pw w.heap.size 2,pw w.heap.size 2,sT o.mark.1,pw gr 0,pw w.heap.size 2,pw w.heap.size 2,sT o.mark.1] #[true,true,true,true,false,false,true,true,true,true,false,false,false] [(32,pw gm 0),(35,sT o.mark.1),(38,pw gr 0),(41,sT o.mark.1)] [0,1,5,13,30] (fun w_=>[la 9 (⟨w.heap.size,2,none⟩) (sT o.mark.1) w_,la 9 (⟨w.heap.size,2,none⟩) (sT o.mark.1) w_]) (fun w_ hC_=>⟨loads1 rfl (Blk.cell hC_ 2 _ rfl),loads1 rfl (Blk.cell hC_ 2 _ rfl),trivial⟩) ?_
  refine XG_mid (fuel':=4) 4 #[true,true,true,true,true,false,true,true,true,true,false,false,false] _ rfl (by kernel_rfl) (by kernel_rfl) rfl ?_
  have O44:=(hM.below (bt b2 b37))
  refine xc 25 ent25 [pw gm 0,sT o.mark.1] (O44.drop o.mark.1 (by omega) (hT.below (bt (bt hB b2) b37)) es (hE.below (bt (bt hB b2) b37))) ?_
  rintro e w39 ⟨rfl,M40,C41⟩; refine⟨_,rfl,?_⟩
  have hlo45:Below wB.heap.size wd36 w39:=C41.lo ((bt (bt hB b2) b37)).size (fun g_ h_=>(O44.lt g_ h_).1)
  have k46:=C41.blk (Blk.below k3 b37) (fun h_=>absurd (hM.lt _ h_).2 (Nat.not_lt.2 (Nat.le_refl _)))
  have hno47:¬Qm w.heap.size:=(fun h_=>absurd (hM.lt _ h_).2 (Nat.not_lt.2 (Nat.le_refl _)))
  have O48:=(hR.below (bt b2 b37)).far C41 (fun k_ h1_ h2_=>hd k_ h2_ h1_)
  refine nl ?_
  refine⟨k46,?_⟩
  refine XG_mid (fuel':=3) 5 (tf 10 3) _ rfl (by kernel_rfl) (by kernel_rfl) rfl ?_
  have B49:Below wB.heap.size wB w39:=(Below.trans (bt (bt hB b2) b37) hlo45)
  refine xc 21 ent21 [errV es (dCode ms o.mark.1)] (num_any es (dCode ms o.mark.1) (by exact dCode_le _ _) _ (hE9.below B49)) ?_
  rintro e w50 ⟨rfl,b51⟩; refine⟨_,rfl,?_⟩
  refine nl ?_
  refine⟨(Blk.below k46 b51),?_⟩
  refine XG_mid (fuel':=2) 10 (tf 11 2) _ rfl (by kernel_rfl) (by kernel_rfl) rfl ?_
  have O57:=(O48.below b51)
  refine xc 28 ent28 [pw gr 0,sT o.mark.1] (O57.drop (by omega) o.mark.1) ?_
  rintro e w52 ⟨rfl,Q55,M53,N56,C54⟩; refine⟨_,rfl,?_⟩
  have hlo58:Below wB.heap.size w50 w52:=C54.lo ((bt B49 b51)).size (fun g_ h_=>(O57.lt g_ h_).1)
  have k59:=C54.blk (Blk.below k46 b51) (fun h_=>absurd (hR.lt _ h_).2 (Nat.not_lt.2 (Nat.le_refl _)))
  have hno60:¬Q55 w.heap.size:=N56.no (fun h_=>absurd (hR.lt _ h_).2 (Nat.not_lt.2 (Nat.le_refl _))) (Blk.lt (Blk.below k46 b51))
  have O61:=(M40.below b51).far C54 hd
  have d62:=N56.apart (fun k_ h1_ h2_=>hd k_ h2_ h1_) (fun k_ h_=>((M40.below b51).lt k_ h_).2)
  refine nl ?_
  refine⟨k59,?_⟩
  by_cases c63:((dCode ms o.mark.1):Int)=(dCode ms o.mark.1:Int)
  ·refine XG_run (fuel':=0) k59 [11,12] [(43,.eq bT)] [bT,bT] (tf 13 0) [(6,bT)] (fun w_=>[Value.bool (((dCode ms o.mark.1):Int)==(dCode ms o.mark.1:Int))=bT]) (fun w_ hC_=>⟨congrArg Value.bool (beq_iff_eq.2 (c63)),trivial⟩) ?_
   refine XG_done (by kernel_rfl) ?_
   refine X_ret (rj [bT] hR_ ?_)
   exact⟨rfl,(dMs ms o.mark.1),_,⟨Qm,Q55,O61,M53,(fun k_ h1_ h2_=>d62 k_ h2_ h1_),rfl⟩,fun k_ hk_=>hk_.elim (fun e_=>.inl (.inl e_)) (fun e_=>(N56 _ e_).imp .inr (fun h_=>Nat.le_trans (Nat.le_trans (Nat.le_trans (Nat.le_trans b2.size b37.size) hlo45.size) b51.size) h_)),(Chg.trans (S':=(fun k=>Qm k∨Qr k)) (Chg.trans (S':=(fun k=>Qm k∨Qr k)) (Chg.trans (S':=(fun k=>Qm k∨Qr k)) (Chg.trans (S':=(fun k=>Qm k∨Qr k)) (Chg.below b2) (Chg.below b37) (fun _ _ h_=>h_)) (C41.imp (fun k_ h_=>.inl h_)) (fun _ _ h_=>h_)) (Chg.below b51) (fun _ _ h_=>h_)) (C54.imp (fun k_ h_=>.inr h_)) (fun _ _ h_=>h_))⟩
  exact absurd rfl c63
 refine xr1 2 [(31,.eq bF)] [(30,bF)] [14] (bN c35) ?_
 refine nl (cf (sq (X_region ?_)))
 by_cases c64:o.kind=3
 ·refine xr1 2 [(45,.eq bT)] [(44,bT)] [30] (bE c64) ?_
  refine nl (ct (sg (xe1 4 [(50,.load (sT o.mark.1))] [(1,pw gr 0),(5,pw w.heap.size 0),(47,pw gm 0),(50,sT o.mark.1)] (lc 9 k3 2) ?_)))
  refine xc 17 ent17 [pw gm 0,sT o.mark.1] ((hM.below b2).get o.mark.1 (by omega) (hT.below (bt hB b2)) es (hE.below (bt hB b2))) ?_
  rintro e w65 ⟨rfl,b66⟩; refine⟨_,rfl,?_⟩
  refine xw 4 [] [(7,pw w65.heap.size 0),(52,.agg #[sT ((gMk ms o.mark.1).1),i6 ((gMk ms o.mark.1).2.1),i6 ((gMk ms o.mark.1).2.2)]),(53,errV es (dCode ms o.mark.1))] [47,50,51] (w65.alloc (.cells #[s0,i6 0,i6 0] 31)) [] trivial ?_
  obtain⟨w67,w71,b68,k69,z70⟩:=new_world w65 #[s0,i6 0,i6 0] 31
  rw[w71]
  refine xst (.agg #[sT ((gMk ms o.mark.1).1),i6 ((gMk ms o.mark.1).2.1),i6 ((gMk ms o.mark.1).2.2)]) k69 0 #[sT ((gMk ms o.mark.1).1),i6 ((gMk ms o.mark.1).2.1),i6 ((gMk ms o.mark.1).2.2)] (fun w72 g73 k74 z75=>?_)
  have hne76:w.heap.size≠w65.heap.size:=Blk.tne (Blk.below k3 (bt b66 b68)) k69 rfl
  have k77:=Blk.other (Blk.below k3 (bt b66 b68)) g73 hne76
  refine xr0 1 [(8,errV es (dCode ms o.mark.1))] [52,53] ?_
  refine nl (sg (xr1 4 [(58,.load (sT o.mark.1))] [(55,pw gr 0),(58,sT o.mark.1)] [1,5] (lc 9 k77 2) ?_))
  have B78:Below w.heap.size w w72:=(bg (bt (bt b2 b66) b68) g73 ((bt b2 b66)).size)
  refine xc 29 ent29 [pw gr 0,sT o.mark.1] ((hR.below B78).get (by omega) o.mark.1) ?_
  rintro e w79 ⟨rfl,b80⟩; refine⟨_,rfl,?_⟩
  refine xw 4 [] [(9,pw w79.heap.size 0),(60,.agg #[sT ((gMk ms o.mark.1).1),i6 ((gMk ms o.mark.1).2.1),i6 ((gMk ms o.mark.1).2.2)]),(61,i6 (dCode ms o.mark.1:Int))] [55,58,59] (w79.alloc (.cells #[s0,i6 0,i6 0] 31)) [] trivial ?_
  obtain⟨w81,w85,b82,k83,z84⟩:=new_world w79 #[s0,i6 0,i6 0] 31
  rw[w85]
  refine xst (.agg #[sT ((gMk ms o.mark.1).1),i6 ((gMk ms o.mark.1).2.1),i6 ((gMk ms o.mark.1).2.2)]) k83 0 #[sT ((gMk ms o.mark.1).1),i6 ((gMk ms o.mark.1).2.1),i6 ((gMk ms o.mark.1).2.2)] (fun w86 g87 k88 z89=>?_)
  refine xr0 1 [(10,i6 (dCode ms o.mark.1:Int))] [60,61] ?_
  refine nl (sg (xe 5 [(62,.load (.agg #[sT ((gMk ms o.mark.1).1),i6 ((gMk ms o.mark.1).2.1),i6 ((gMk ms o.mark.1).2.2)])),(63,.load (.agg #[sT ((gMk ms o.mark.1).1),i6 ((gMk ms o.mark.1).2.1),i6 ((gMk ms o.mark.1).2.2)])),(64,.as bT)] [(10,i6 (dCode ms o.mark.1:Int)),(65,bT),(66,errV es (dCode ms o.mark.1))] [la 31 (⟨w65.heap.size,0,none⟩) (.agg #[sT ((gMk ms o.mark.1).1),i6 ((gMk ms o.mark.1).2.1),i6 ((gMk ms o.mark.1).2.2)]) w86,la 31 (⟨w79.heap.size,0,none⟩) (.agg #[sT ((gMk ms o.mark.1).1),i6 ((gMk ms o.mark.1).2.1),i6 ((gMk ms o.mark.1).2.2)]) w86,RunsAs Tryz.prog [(62,.agg #[sT ((gMk ms o.mark.1).1),i6 ((gMk ms o.mark.1).2.1),i6 ((gMk ms o.mark.1).2.2)]),(63,.agg #[sT ((gMk ms o.mark.1).1),i6 ((gMk ms o.mark.1).2.1),i6 ((gMk ms o.mark.1).2.2)])] (Go.Op.binOp Go.BinOp.eql 31 (Go.Operand.tmp 62) (Go.Operand.tmp 63) 31) 4 bT w86] ⟨loadsB rfl rfl (Blk.below k74 (bg (bt b80 b82) g87 (b80).size)) 0 ⟨by kernel_rfl,by kernel_rfl⟩,loadsB rfl rfl k88 0 ⟨by kernel_rfl,by kernel_rfl⟩,runs_bin rfl rfl (run_eqGuard_agg _ _ _ _ _ _ _ (by kernel_rfl)) (mark_eqb (gMk ms o.mark.1) _),trivial⟩ ?_))
  have B92:Below wB.heap.size wB w79:=(bt (bg (bt (bt (bt hB b2) b66) b68) g73 ((bt (bt hB b2) b66)).size) b80)
  have B93:Below wB.heap.size wB w86:=(bg (bt (bt (bg (bt (bt (bt hB b2) b66) b68) g73 ((bt (bt hB b2) b66)).size) b80) b82) g87 (B92).size)
  refine xc 21 ent21 [errV es (dCode ms o.mark.1)] (num_any es (dCode ms o.mark.1) (by exact dCode_le _ _) _ (hE9.below B93)) ?_
  rintro e w94 ⟨rfl,b95⟩; refine⟨_,rfl,?_⟩
  refine xr0 1 [(67,i6 ((dCode ms o.mark.1):Int)),(68,i6 (dCode ms o.mark.1:Int))] [10,66] ?_
  by_cases c96:((dCode ms o.mark.1):Int)=(dCode ms o.mark.1:Int)
  ·refine xe1 3 [(69,.eq bT)] [(6,bT)] (bE c96) ?_
   refine nl (X_ret (rj [bT] hR_ ?_))
   have B97:Below w.heap.size w w94:=(bt (bg (bt (bt B78 b80) b82) g87 ((bt B78 b80)).size) b95)
   exact⟨rfl,ms,_,⟨Qm,Qr,(hM.below B97),(hR.below B97),hd,rfl⟩,fun k_ hk_=>hk_.elim (fun e_=>.inl (.inl e_)) (fun e_=>.inl (.inr e_)),(Chg.trans (S':=(fun k=>Qm k∨Qr k)) (Chg.trans (S':=(· =w79.heap.size)) (Chg.trans (S':=(fun k=>Qm k∨Qr k)) (Chg.trans (S':=(fun k=>Qm k∨Qr k)) (Chg.trans (S':=(· =w65.heap.size)) (Chg.trans (S':=(fun k=>Qm k∨Qr k)) (Chg.trans (S':=(fun k=>Qm k∨Qr k)) (Chg.below b2) (Chg.below b66) (fun _ _ h_=>h_)) (Chg.below b68) (fun _ _ h_=>h_)) (Chg.grown (S:=(· =w65.heap.size)) g73 (fun k_ e_=>(Option.some.inj e_).symm)) (fun g_ h1_ h2_=>absurd h1_ (by subst h2_; exact Nat.not_lt.2 ((bt b2 b66)).size))) (Chg.below b80) (fun _ _ h_=>h_)) (Chg.below b82) (fun _ _ h_=>h_)) (Chg.grown (S:=(· =w79.heap.size)) g87 (fun k_ e_=>(Option.some.inj e_).symm)) (fun g_ h1_ h2_=>absurd h1_ (by subst h2_; exact Nat.not_lt.2 ((bt B78 b80)).size))) (Chg.below b95) (fun _ _ h_=>h_))⟩
  exact absurd rfl c96
 refine xr1 2 [(45,.eq bF)] [(44,bF)] [30] (bN c64) ?_
 refine nl (cf (sq (X_region ?_)))
 by_cases c98:o.kind=4
 ·refine xe1 2 [(72,.eq bT)] [(0,pw gm 0),(1,pw gr 0),(5,pw w.heap.size 0),(13,i6 o.kind),(71,bT)] (bE c98) ?_
  refine nl (ct (sg (xr1 2 [(74,.load (aL D o.ops dc))] [(74,aL D o.ops dc)] [13,71] (lc 32 k3 6) ?_)))
  refine xc 11 ent11 [aL D o.ops dc] (lof_any _ _ o.ops _ (Kd.C_below hx (bt hB b2)) hxc (by omega) hz3 (by omega) (hT.below (bt hB b2)) es (hE.below (bt hB b2))) ?_
  rintro e w99 ⟨b100,⟨c101,hbd102,d103,A104,c105,rfl,d106⟩|⟨c101,rfl⟩⟩
  ·refine⟨_,rfl,?_⟩
   refine xr0 1 [(11,pw d103 0)] [74,75] ?_
   refine nl (sq (X_gen (S:=fun w_=>RX.Blk w_ w.heap.size 34 #[i6 o.kind,.bool o.second,sT o.mark.1,i6 o.mark.2.1,i6 o.mark.2.2,i6 o.cells,aL D o.ops dc]) [] 20 (tf 0 20) (by kernel_rfl) (by kernel_rfl) (by kernel_rfl) (fun wd107 b108 h109=>?_)))
   refine XG_runC (fuel':=6) (Blk.below k3 (bt b100 b108)) [0,1,2,3,4,5,6,7,10,11,12,13,14,15] [(83,.load (sT o.mark.1)),(88,.load (aL D o.ops dc)),(91,.load (sT o.mark.1))] [pw d103 0,bF,bF,pw gm 0,pw d103 0,pw w.heap.size 2,pw w.heap.size 2,sT o.mark.1,pw gr 0,pw w.heap.size 6,.slice D o.ops.length dc,pw w.heap.size 2,pw w.heap.size 2,sT o.mark.1] #[true,true,true,true,true,true,true,true,false,false,true,true,true,true,true,true,false,false,false,false] [(78,bF),(79,pw gm 0),(80,pw d103 0),(83,sT o.mark.1),(86,pw gr 0),(88,aL D o.ops dc),(91,sT o.mark.1)] [0,1,5,11] (fun w_=>[la 9 (⟨w.heap.size,2,none⟩) (sT o.mark.1) w_,la 32 (⟨w.heap.size,6,none⟩) (aL D o.ops dc) w_,la 9 (⟨w.heap.size,2,none⟩) (sT o.mark.1) w_]) (fun w_ hC_=>⟨loads1 rfl (Blk.cell hC_ 2 _ rfl),loads1 rfl (Blk.cell hC_ 6 _ rfl),loads1 rfl (Blk.cell hC_ 2 _ rfl),trivial⟩) ?_
   refine XG_mid (fuel':=5) 8 #[true,true,true,true,true,true,true,true,true,false,true,true,true,true,true,true,false,false,false,false] _ rfl (by kernel_rfl) (by kernel_rfl) rfl ?_
   have O115:=(hM.below (bt (bt b2 b100) b108))
   refine xc 16 ent16 [pw gm 0,pw d103 0,sT o.mark.1] (O115.move d103 o.ops o.mark.1 ((d106.below b108).c) hbd102 (by omega) hz3 (hT.below (bt (bt (bt hB b2) b100) b108)) es (hE.below (bt (bt (bt hB b2) b100) b108)) ((bt (bt (bt hB b2) b100) b108)).size) ?_
   rintro e w110 ⟨rfl,Q113,M111,N114,C112⟩; refine⟨_,rfl,?_⟩
   have hlo116:Below wB.heap.size wd107 w110:=C112.lo ((bt (bt (bt hB b2) b100) b108)).size (fun g_ h_=>(O115.lt g_ h_).1)
   have k117:=C112.blk (Blk.below k3 (bt b100 b108)) (fun h_=>absurd (hM.lt _ h_).2 (Nat.not_lt.2 (Nat.le_refl _)))
   have hno118:¬Q113 w.heap.size:=N114.no (fun h_=>absurd (hM.lt _ h_).2 (Nat.not_lt.2 (Nat.le_refl _))) (Blk.lt (Blk.below k3 (bt b100 b108)))
   have O119:=(hR.below (bt (bt b2 b100) b108)).far C112 (fun k_ h1_ h2_=>hd k_ h2_ h1_)
   have d120:=N114.apart hd (fun k_ h_=>((hR.below (bt (bt b2 b100) b108)).lt k_ h_).2)
   refine nl ?_
   refine⟨k117,?_⟩
   refine XG_mid (fuel':=4) 9 (tf 16 4) _ rfl (by kernel_rfl) (by kernel_rfl) rfl ?_
   have B122:Below wB.heap.size wB w110:=(Below.trans (bt (bt (bt hB b2) b100) b108) hlo116)
   refine xc 21 ent21 [errV es (mvE o.ops o.mark.1 ms)] (num_any es (mvE o.ops o.mark.1 ms) (by exact mvE_le _ _ _) _ (hE9.below B122)) ?_
   rintro e w123 ⟨rfl,b124⟩; refine⟨_,rfl,?_⟩
   refine nl ?_
   refine⟨(Blk.below k117 b124),?_⟩
   refine XG_mid (fuel':=3) 16 (tf 17 3) _ rfl (by kernel_rfl) (by kernel_rfl) rfl ?_
   have O130:=(O119.below b124)
   refine xc 30 ent30 [pw gr 0,.slice D o.ops.length dc,sT o.mark.1] (O130.move (by omega) _ _ o.ops o.mark.1 (Kd.C_below hx (bt B122 b124)) (by omega) hz3 hbd102) ?_
   rintro e w125 ⟨rfl,Q128,M126,N129,C127⟩; refine⟨_,rfl,?_⟩
   have hlo131:Below wB.heap.size w123 w125:=C127.lo ((bt B122 b124)).size (fun g_ h_=>(O130.lt g_ h_).1)
   have k132:=C127.blk (Blk.below k117 b124) (fun h_=>absurd (hR.lt _ h_).2 (Nat.not_lt.2 (Nat.le_refl _)))
   have hno133:¬Q128 w.heap.size:=N129.no (fun h_=>absurd (hR.lt _ h_).2 (Nat.not_lt.2 (Nat.le_refl _))) (Blk.lt (Blk.below k117 b124))
   have O134:=(M111.below b124).far C127 d120
   have d135:=N129.apart (fun k_ h1_ h2_=>d120 k_ h2_ h1_) (fun k_ h_=>((M111.below b124).lt k_ h_).2)
   refine nl ?_
   refine⟨k132,?_⟩
   by_cases c137:((mvE o.ops o.mark.1 ms):Int)=(mvE o.ops o.mark.1 ms:Int)
   ·refine XG_run (fuel':=0) k132 [17,18,19] [(93,.eq bT)] [bT,bT,bT] (tf 20 0) [(6,bT)] (fun w_=>[Value.bool (((mvE o.ops o.mark.1 ms):Int)==(mvE o.ops o.mark.1 ms:Int))=bT]) (fun w_ hC_=>⟨congrArg Value.bool (beq_iff_eq.2 (c137)),trivial⟩) ?_
    refine XG_done (by kernel_rfl) ?_
    refine X_ret (rj [bT] hR_ ?_)
    exact⟨rfl,(mvMs o.ops o.mark.1 ms),_,⟨Q113,Q128,O134,M126,(fun k_ h1_ h2_=>d135 k_ h2_ h1_),rfl⟩,fun k_ hk_=>hk_.elim (fun e_=>(N114 _ e_).imp .inl (fun h_=>Nat.le_trans ((bt (bt b2 b100) b108)).size h_)) (fun e_=>(N129 _ e_).imp .inr (fun h_=>Nat.le_trans (Nat.le_trans (Nat.le_trans (Nat.le_trans (Nat.le_trans b2.size b100.size) b108.size) hlo116.size) b124.size) h_)),(Chg.trans (S':=(fun k=>Qm k∨Qr k)) (Chg.trans (S':=(fun k=>Qm k∨Qr k)) (Chg.trans (S':=(fun k=>Qm k∨Qr k)) (Chg.trans (S':=(fun k=>Qm k∨Qr k)) (Chg.trans (S':=(fun k=>Qm k∨Qr k)) (Chg.below b2) (Chg.below b100) (fun _ _ h_=>h_)) (Chg.below b108) (fun _ _ h_=>h_)) (C112.imp (fun k_ h_=>.inl h_)) (fun _ _ h_=>h_)) (Chg.below b124) (fun _ _ h_=>h_)) (C127.imp (fun k_ h_=>.inr h_)) (fun _ _ h_=>h_))⟩
   exact absurd rfl c137
  refine⟨_,rfl,?_⟩
  refine xr0 1 [(11,.pointer none)] [74,75] ?_
  refine nl (sq (X_gen (S:=fun w_=>RX.Blk w_ w.heap.size 34 #[i6 o.kind,.bool o.second,sT o.mark.1,i6 o.mark.2.1,i6 o.mark.2.2,i6 o.cells,aL D o.ops dc]) [] 20 (tf 0 20) (by kernel_rfl) (by kernel_rfl) (by kernel_rfl) (fun wd138 b139 h140=>?_)))
  refine XG_run (fuel':=6) (Blk.below k3 (bt b100 b139)) [0,1,2,3,4,5,6,7,10,11,12,13,14,15] [] [.pointer none,bT,bT,undef,undef,undef,undef,undef,undef,undef,undef,undef,undef,undef] #[true,true,true,true,true,true,true,true,false,false,true,true,true,true,true,true,false,false,false,false] [(78,bT),(79,undef),(80,undef),(83,undef),(86,undef),(88,undef),(91,undef)] (fun w_=>[]) (fun w_ hC_=>trivial) ?_
  refine XG_run (fuel':=3) (Blk.below k3 (bt b100 b139)) [8,9,16] [] [undef,undef,undef] (tf 17 3) [(78,bT),(85,undef),(92,undef)] (fun w_=>[]) (fun w_ hC_=>trivial) ?_
  refine XG_run (fuel':=0) (Blk.below k3 (bt b100 b139)) [17,18,19] [] [undef,bT,bT] (tf 20 0) [(6,bT)] (fun w_=>[]) (fun w_ hC_=>trivial) ?_
  refine XG_done (by kernel_rfl) ?_
  refine X_ret (rj [bT] hR_ ?_)
  exact⟨rfl,ms,_,⟨Qm,Qr,(hM.below (bt (bt b2 b100) b139)),(hR.below (bt (bt b2 b100) b139)),hd,rfl⟩,fun k_ hk_=>hk_.elim (fun e_=>.inl (.inl e_)) (fun e_=>.inl (.inr e_)),(Chg.trans (S':=(fun k=>Qm k∨Qr k)) (Chg.trans (S':=(fun k=>Qm k∨Qr k)) (Chg.below b2) (Chg.below b100) (fun _ _ h_=>h_)) (Chg.below b139) (fun _ _ h_=>h_))⟩
 refine xe1 2 [(72,.eq bF)] [(0,pw gm 0),(1,pw gr 0),(5,pw w.heap.size 0),(13,i6 o.kind),(71,bF)] (bN c98) ?_
 refine nl (cf (sq (X_region ?_)))
 by_cases c141:o.kind=5
 ·refine xr1 2 [(96,.eq bT)] [(95,bT)] [5,13,71] (bE c141) ?_
  refine nl (ct (sg (xe0 2 [(97,pw gm 0),(98,pw gr 0)] ?_)))
  refine xc 10 ent10 [pw gm 0,pw gr 0] ((hM.below b2).tells (hR.below b2)) ?_
  rintro e w142 ⟨rfl,b143⟩; refine⟨_,rfl,?_⟩
  refine xe0 1 [(6,bT)] ?_
  refine nl (X_ret (rj [bT] hR_ ?_))
  exact⟨rfl,ms,_,⟨Qm,Qr,(hM.below (bt b2 b143)),(hR.below (bt b2 b143)),hd,rfl⟩,fun k_ hk_=>hk_.elim (fun e_=>.inl (.inl e_)) (fun e_=>.inl (.inr e_)),(Chg.trans (S':=(fun k=>Qm k∨Qr k)) (Chg.below b2) (Chg.below b143) (fun _ _ h_=>h_))⟩
 refine xr1 2 [(96,.eq bF)] [(95,bF)] [5,13,71] (bN c141) ?_
 refine nl (cf (sk (sg (xe0 1 [(6,bT)] ?_))))
 refine nl (X_ret (rj [bT] hR_ ?_))
 exact⟨rfl,ms,_,⟨Qm,Qr,(hM.below b2),(hR.below b2),hd,rfl⟩,fun k_ hk_=>hk_.elim (fun e_=>.inl (.inl e_)) (fun e_=>.inl (.inr e_)),(Chg.below b2)⟩
end Go.Proofs.YtlnnjfdonilgmaaGreatDoor
