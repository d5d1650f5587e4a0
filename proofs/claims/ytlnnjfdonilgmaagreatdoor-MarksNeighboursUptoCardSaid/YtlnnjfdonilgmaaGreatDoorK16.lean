/- MarksNeighbours returns true. Conditions: sizes, the tables of utf8, the errors' variables. -/
import Derived.Test.YtlnnjfdonilgmaaGreatDoorK11
import Derived.Test.YtlnnjfdonilgmaaGreatDoorNb2
set_option linter.unusedVariables false
set_option linter.unusedSimpArgs false
set_option maxRecDepth 100000
namespace Go.Proofs.YtlnnjfdonilgmaaGreatDoor
open Go Go.RowKit Go.Proofs.YtlnnjfdonilgmaaGreatDoorW.PrintWords RX
theorem Kd_len2 {α:Type}{d:Kd α}{n m:Nat}{w:World}{A:Option Addr}{xs:List α}(hn:n=m)(h:d.C w A n xs):d.C w A m xs:=hn▸h
set_option maxHeartbeats 4000000 in
theorem marksNeighbours_law (A A1:Option Addr)(c c1:Nat)(xs:List OpA)(ps:List Int)(cl:Int)(w0:World)(hx:kOp.C w0 A xs.length xs)(hp:(Kd.int .i64).C w0 A1 ps.length ps)(hxc:xs.length≤c)(hn:xs.length≤116508)(hz:∀ i,i<xs.length→opSz (xs.getD i op0))(ht:B.txS xs≤1048576)(hcl: -9223372036854775808≤cl∧cl≤9223372036854775807)(hT0:Tabs w0)(es:List Addr)(hE0:ErrsM w0 es):
  Calls Tryz.prog 4 #[.slice A xs.length c,.slice A1 ps.length c1,i6 cl] w0 fun e w'=>e=.returned bT∧Below w0.heap.size w0 w':=by
 refine en Tryz.func4 rfl 225 [(0,aL A xs c),(1,aL A1 ps c1),(2,i6 cl)] (fun R_ hR_=>?_)
 refine sg (xe0 1 [(0,aL A xs c),(1,aL A1 ps c1),(2,i6 cl)] ?_)
 refine nl (sq (sg (xc 7 ent7 [] (fixed23_any _ (hT0.below (Below.refl _ _)) es (hE0.below (Below.refl _ _))) ?_)))
 rintro e w1 ⟨rfl,b2⟩; refine⟨_,rfl,?_⟩
 refine xr0 1 [(25,bF)] [24] ?_
 refine nl (cf (sk (sg (xr0 1 [(26,aL A xs c)] [25] ?_))))
 refine xc 11 ent11 [aL A xs c] (lof_any _ _ xs _ (Kd.C_below hx b2) hxc (by omega) hz (by omega) (hT0.below b2) es (hE0.below b2)) ?_
 rintro e w3 ⟨b4,⟨c5,hbd6,d7,A8,c9,rfl,d10⟩|⟨c5,rfl⟩⟩
 ·refine⟨_,rfl,?_⟩
  have hlp_:=(lenP_zero c5.1).2.2
  have hsum_:=B.of_can c5
  have hL_:B.L=1099511627776:=rfl
  have hsb_:(lenP xs).1=sB xs:=by rw[hlp_]
  have hsr_:(lenP xs).2.1=sR xs:=by rw[hlp_]
  have hsb0_:=sB_ok hbd6
  have hsr0_:=sR_ok hbd6
  have hbd_:=hbd6
  obtain⟨_,hsB_,hsR_,_⟩:=hsum_
  refine xc 12 ent12 [] (bempty_any _) ?_
  rintro e wB ⟨g11,rfl,g13,k14,b15⟩; refine⟨_,rfl,?_⟩
  have hT:=hT0.below (bt (bt b2 b4) b15)
  have hE:=hE0.below (bt (bt b2 b4) b15)
  have hdE_:=deltaC_nil23 k14
  have hdC_:=(d10.below b15).c
  refine xr0 2 [(7,pw d7 0),(8,pw g11 0)] [26,27,28] ?_
  refine nl (sg (xr0 1 [(29,aL A xs c)] [] ?_))
  refine xc 13 ent13 [aL A xs c] (r8base_any _ _ xs _ (Kd.C_below hx (bt (bt b2 b4) b15)) (by omega) hz (hT.below (Below.refl _ _))) ?_
  rintro e w16 ⟨rfl,b17⟩; refine⟨_,rfl,?_⟩
  refine xr0 1 [(9,i6 ((lenP xs).1))] [29,30] ?_
  refine nl (sq (sg (xe0 9 [(0,aL A xs c),(1,aL A1 ps c1),(2,i6 cl),(7,pw d7 0),(8,pw g11 0),(9,i6 ((lenP xs).1)),(37,bF),(39,i6 (ps.length:Int))] ?_)))
  by_cases c18:(ps.length:Int)<2
  ·refine xr1 11 [(40,.eq bT)] [(50,bT)] [37,39] (dT c18) ?_
   refine nl (ct (sg (xe0 3 [(6,bT)] ?_)))
   refine nl (X_ret (rj [bT] hR_ ?_))
   exact⟨rfl,(bt (bt (bt b2 b4) b15) b17)⟩
  refine xr1 4 [(40,.eq bF)] [(42,bF),(43,i6 ((lenP xs).1))] [37,39] (dF c18) ?_
  by_cases c19:(lenP xs).1>1073741824
  ·refine xr1 7 [(44,.eq bT)] [(50,bT)] [42,43] (dT c19) ?_
   refine nl (ct (sg (xe0 3 [(6,bT)] ?_)))
   refine nl (X_ret (rj [bT] hR_ ?_))
   exact⟨rfl,(bt (bt (bt b2 b4) b15) b17)⟩
  refine xr1 4 [(44,.eq bF)] [(46,bF),(47,aL A xs c)] [42,43] (dF c19) ?_
  refine xc 14 ent14 [aL A xs c] (r8result_any _ _ xs _ (Kd.C_below hx (bt (bt (bt b2 b4) b15) b17)) (by omega) hz (hT.below b17)) ?_
  rintro e w20 ⟨rfl,b21⟩; refine⟨_,rfl,?_⟩
  by_cases c22:(lenP xs).2.1>1073741824
  ·refine xr1 2 [(49,.eq bT)] [(50,bT)] [46,47,48] (dT c22) ?_
   refine nl (ct (sg (xe0 3 [(6,bT)] ?_)))
   refine nl (X_ret (rj [bT] hR_ ?_))
   have B23:Below w0.heap.size w0 w20:=(bt (bt (bt (bt b2 b4) b15) b17) b21)
   exact⟨rfl,B23⟩
  refine xr1 2 [(49,.eq bF)] [(50,bF)] [46,47,48] (dF c22) ?_
  refine nl (cf (sk (sq (X_region ?_))))
  refine xr 7 [(57,.eq (i6 (pq 40 cl))),(58,.eq (i6 (((lenP xs).1)+(pq 40 cl))))] [(10,i6 (((lenP xs).1)+(pq 40 cl)))] [2,9,50] [i6 (IntKind.i64.wrap (Int.tmod (IntKind.u64.wrap (cl)) 40))=i6 (pq 40 cl),i6 (IntKind.i64.wrap (((lenP xs).1)+(pq 40 cl)))=i6 (((lenP xs).1)+(pq 40 cl))] ⟨pq_cv _ (by omega) (by omega),wr_i64 (by have h_:=pq_bd (n:=40) (x:=cl) (by omega); omega) (by have h_:=pq_bd (n:=40) (x:=cl) (by omega); omega),trivial⟩ ?_
  refine nl (sg (xc 8 ent8 [] (MI.new _) ?_))
  rintro e w28 ⟨g24,Q25,rfl,M26,b27⟩; refine⟨_,rfl,?_⟩
  have M29:MI g24 wB.heap.size [] Q25 w28:=MI.low M26 ((bt b17 b21)).size
  refine xr0 1 [(11,pw g24 0)] [59] ?_
  refine nl (sq (sq (X_region ?_)))
  have hq40_:=pq_bd (n:=40) (x:=cl) (by omega)
  have hpq0_:=pq_bd (n:=((lenP xs).1+pq 40 cl)+1) (x:=rd ps 0) (by omega)
  have hpq1_:=pq_bd (n:=((lenP xs).1+pq 40 cl)+1) (x:=rd ps 1) (by omega)
  obtain⟨hnp1_,hnp2_,hnbp_⟩:=nb_all (size:=((lenP xs).1+pq 40 cl)) (p:=(pq (((lenP xs).1+pq 40 cl)+1) (rd ps 0))) hbd_ hz (by omega) (by omega) (by omega) hpq0_.1 (by omega)
  obtain⟨hnq1_,hnq2_,hnbq_⟩:=nb_all (size:=((lenP xs).1+pq 40 cl)) (p:=(pq (((lenP xs).1+pq 40 cl)+1) (rd ps 1))) hbd_ hz (by omega) (by omega) (by omega) hpq1_.1 (by omega)
  refine xe0 2 [(0,aL A xs c),(1,aL A1 ps c1),(7,pw d7 0),(8,pw g11 0),(10,i6 (((lenP xs).1)+(pq 40 cl))),(11,pw g24 0),(61,bF)] ?_
  refine nl (cf (sk (sq (X_still (by kernel_rfl) (by kernel_rfl) (fun wd30 b31 h32=>?_)))))
  refine xsC 1 [] [(62,aL A1 ps c1)] [61] [] trivial ?_
  have B33:Below w0.heap.size w0 wd30:=(bt (bt (bt (bt (bt (bt b2 b4) b15) b17) b21) b27) b31)
  obtain⟨ad34,a35,c36⟩:=Kd.atI (Kd.C_below hp B33) (i:=(0:Int)) (by omega) (by omega)
  refine xsC 9 [(63,.idx ad34),(64,.load (i6 (rd ps (0:Int)))),(67,.eq (i6 ((((lenP xs).1)+(pq 40 cl))+1))),(68,.eq (.int .u64 ((((lenP xs).1)+(pq 40 cl))+1))),(69,.as (.int .u64 (pq (((lenP xs).1+pq 40 cl)+1) (rd ps 0)))),(70,.eq (i6 (pq (((lenP xs).1+pq 40 cl)+1) (rd ps 0))))] [(70,i6 (pq (((lenP xs).1+pq 40 cl)+1) (rd ps 0))),(71,aL A1 ps c1)] [1,62] [A1=some ad34,(0:Int)≤0,0<(ps.length:Int),la 3 (ad34.add ((0:Int).toNat*1)) (i6 (rd ps (0:Int))) wd30,_,Value.int .u64 (IntKind.u64.wrap ((((lenP xs).1)+(pq 40 cl))+1))=Value.int .u64 ((((lenP xs).1)+(pq 40 cl))+1),RunsAs Tryz.prog [(65,.int .u64 (IntKind.u64.wrap (rd ps (0:Int)))),(68,.int .u64 ((((lenP xs).1)+(pq 40 cl))+1))] (Go.Op.binOp Go.BinOp.rem 43 (Go.Operand.tmp 65) (Go.Operand.tmp 68) 43) 43 (.int .u64 (pq (((lenP xs).1+pq 40 cl)+1) (rd ps 0))) wd30,i6 (IntKind.i64.wrap ((pq (((lenP xs).1+pq 40 cl)+1) (rd ps 0))))=i6 (pq (((lenP xs).1+pq 40 cl)+1) (rd ps 0))] ⟨a35,(by omega),(by omega),loads1 rfl (elem_cell c36 0 _ rfl),w6 ((((lenP xs).1)+(pq 40 cl))+1),wr_u64 (by omega) (by omega),runs_bin rfl rfl rfl (run_rem23 (t:=43) (k:=.u64) (a:=(IntKind.u64.wrap (rd ps (0:Int)))) (b:=((((lenP xs).1)+(pq 40 cl))+1)) (by omega) wd30),pq_cv _ (by omega) (by omega),trivial⟩ ?_
  obtain⟨ad37,a38,c39⟩:=Kd.atI (Kd.C_below hp B33) (i:=(1:Int)) (by omega) (by omega)
  refine xsC 10 [(72,.idx ad37),(73,.load (i6 (rd ps (1:Int)))),(76,.eq (i6 ((((lenP xs).1)+(pq 40 cl))+1))),(77,.eq (.int .u64 ((((lenP xs).1)+(pq 40 cl))+1))),(78,.as (.int .u64 (pq (((lenP xs).1+pq 40 cl)+1) (rd ps 1)))),(79,.eq (i6 (pq (((lenP xs).1+pq 40 cl)+1) (rd ps 1))))] [(12,i6 (pq (((lenP xs).1+pq 40 cl)+1) (rd ps 0))),(13,i6 (pq (((lenP xs).1+pq 40 cl)+1) (rd ps 1)))] [70,71] [A1=some ad37,(0:Int)≤1,1<(ps.length:Int),la 3 (ad37.add ((1:Int).toNat*1)) (i6 (rd ps (1:Int))) wd30,_,Value.int .u64 (IntKind.u64.wrap ((((lenP xs).1)+(pq 40 cl))+1))=Value.int .u64 ((((lenP xs).1)+(pq 40 cl))+1),RunsAs Tryz.prog [(74,.int .u64 (IntKind.u64.wrap (rd ps (1:Int)))),(77,.int .u64 ((((lenP xs).1)+(pq 40 cl))+1))] (Go.Op.binOp Go.BinOp.rem 43 (Go.Operand.tmp 74) (Go.Operand.tmp 77) 43) 43 (.int .u64 (pq (((lenP xs).1+pq 40 cl)+1) (rd ps 1))) wd30,i6 (IntKind.i64.wrap ((pq (((lenP xs).1+pq 40 cl)+1) (rd ps 1))))=i6 (pq (((lenP xs).1+pq 40 cl)+1) (rd ps 1))] ⟨a38,(by omega),(by omega),loads1 rfl (elem_cell c39 0 _ rfl),w6 ((((lenP xs).1)+(pq 40 cl))+1),wr_u64 (by omega) (by omega),runs_bin rfl rfl rfl (run_rem23 (t:=43) (k:=.u64) (a:=(IntKind.u64.wrap (rd ps (1:Int)))) (b:=((((lenP xs).1)+(pq 40 cl))+1)) (by omega) wd30),pq_cv _ (by omega) (by omega),trivial⟩ ?_
  refine XS_nil ?_
  refine sq (sg (xr0 5 [(80,pw g24 0),(83,.agg #[sT (⟨#[109,101]⟩:ByteArray),i6 (pq (((lenP xs).1+pq 40 cl)+1) (rd ps 0)),i6 (pq (((lenP xs).1+pq 40 cl)+1) (rd ps 1))]),(84,i6 (((lenP xs).1)+(pq 40 cl)))] [] ?_))
  have hst85_:=nb_s1 (p:=(pq (((lenP xs).1+pq 40 cl)+1) (rd ps 0))) (q:=(pq (((lenP xs).1+pq 40 cl)+1) (rd ps 1))) (s:=((lenP xs).1+pq 40 cl)) hpq0_.1 (by omega) hpq1_.1 (by omega)
  have O45:=(M29.below b31)
  refine xc 15 ent15 [pw g24 0,.agg #[sT (⟨#[109,101]⟩:ByteArray),i6 (pq (((lenP xs).1+pq 40 cl)+1) (rd ps 0)),i6 (pq (((lenP xs).1+pq 40 cl)+1) (rd ps 1))],i6 (((lenP xs).1)+(pq 40 cl))] (O45.set (bMe,(pq (((lenP xs).1+pq 40 cl)+1) (rd ps 0)),(pq (((lenP xs).1+pq 40 cl)+1) (rd ps 1))) ((lenP xs).1+pq 40 cl) (by decide:bMe.size≤9223372036854775807) (hT.below (bt (bt (bt b17 b21) b27) b31)) es (hE.below (bt (bt (bt b17 b21) b27) b31))) ?_
  rintro e w40 ⟨rfl,M41,C42⟩; refine⟨_,rfl,?_⟩
  have hlo46:Below wB.heap.size wd30 w40:=C42.lo ((bt (bt (bt b17 b21) b27) b31)).size (fun g_ h_=>(O45.lt g_ h_).1)
  rw[hst85_.2]at M41
  rw[hst85_.1,errV_zero]
  refine xr0 7 [(87,bF),(88,pw g24 0),(91,.agg #[sT (⟨#[121,111,117]⟩:ByteArray),i6 (pq (((lenP xs).1+pq 40 cl)+1) (rd ps 0)),i6 (pq (((lenP xs).1+pq 40 cl)+1) (rd ps 1))]),(92,i6 (((lenP xs).1)+(pq 40 cl)))] [80,83,84,85] ?_
  have hst93_:=nb_s2 (p:=(pq (((lenP xs).1+pq 40 cl)+1) (rd ps 0))) (q:=(pq (((lenP xs).1+pq 40 cl)+1) (rd ps 1))) (s:=((lenP xs).1+pq 40 cl)) hpq0_.1 (by omega) hpq1_.1 (by omega)
  have B49:Below wB.heap.size wB w40:=(Below.trans (bt (bt (bt b17 b21) b27) b31) hlo46)
  have O55:=M41
  refine xc 15 ent15 [pw g24 0,.agg #[sT (⟨#[121,111,117]⟩:ByteArray),i6 (pq (((lenP xs).1+pq 40 cl)+1) (rd ps 0)),i6 (pq (((lenP xs).1+pq 40 cl)+1) (rd ps 1))],i6 (((lenP xs).1)+(pq 40 cl))] (O55.set (bYou,(pq (((lenP xs).1+pq 40 cl)+1) (rd ps 0)),(pq (((lenP xs).1+pq 40 cl)+1) (rd ps 1))) ((lenP xs).1+pq 40 cl) (by decide:bYou.size≤9223372036854775807) (hT.below B49) es (hE.below B49)) ?_
  rintro e w50 ⟨rfl,M51,C52⟩; refine⟨_,rfl,?_⟩
  have hlo56:Below wB.heap.size w40 w50:=C52.lo (B49).size (fun g_ h_=>(O55.lt g_ h_).1)
  rw[hst93_.2]at M51
  rw[hst93_.1,errV_zero]
  refine xe0 5 [(0,aL A xs c),(7,pw d7 0),(10,i6 (((lenP xs).1)+(pq 40 cl))),(11,pw g24 0),(12,i6 (pq (((lenP xs).1+pq 40 cl)+1) (rd ps 0))),(13,i6 (pq (((lenP xs).1+pq 40 cl)+1) (rd ps 1))),(96,bF),(97,pw g24 0),(98,pw g11 0)] ?_
  have hmv99_:=nb_e (p:=(pq (((lenP xs).1+pq 40 cl)+1) (rd ps 0))) (q:=(pq (((lenP xs).1+pq 40 cl)+1) (rd ps 1))) hpq0_.1 (by omega) hpq1_.1 (by omega)
  have O64:=M51
  refine xc 16 ent16 [pw g24 0,pw g11 0,sT (⟨#[109,101]⟩:ByteArray)] (O64.move g11 [] bMe ((hdE_.below (Below.trans B49 hlo56))) rfl (Nat.zero_le _) (fun _ h_=>absurd h_ (Nat.not_lt_zero _)) (hT.below (Below.trans B49 hlo56)) es (hE.below (Below.trans B49 hlo56)) ((Below.trans B49 hlo56)).size) ?_
  rintro e w59 ⟨rfl,Q62,M60,N63,C61⟩; refine⟨_,rfl,?_⟩
  have hlo65:Below wB.heap.size w50 w59:=C61.lo ((Below.trans B49 hlo56)).size (fun g_ h_=>(O64.lt g_ h_).1)
  rw[hmv99_.2]at M60
  rw[hmv99_.1,errV_zero]
  refine xr0 2 [(101,bF)] [96,97,98,99] ?_
  refine nl (cf (sk (sg (xr0 1 [(103,pw g24 0)] [101] ?_))))
  have B68:Below wB.heap.size wB w59:=(Below.trans (Below.trans B49 hlo56) hlo65)
  refine xc 17 ent17 [pw g24 0,sT (⟨#[109,101]⟩:ByteArray)] (M60.get bMe (by decide) (hT.below B68) es (hE.below B68)) ?_
  rintro e w69 ⟨rfl,b70⟩; refine⟨_,rfl,?_⟩
  rw[(nb_g _ _ _ _).1,(nb_g _ _ _ _).2,errV_zero]
  refine xw 4 [] [(14,pw w69.heap.size 0),(105,.agg #[sT bMe,i6 (pq (((lenP xs).1+pq 40 cl)+1) (rd ps 0)),i6 (pq (((lenP xs).1+pq 40 cl)+1) (rd ps 1))]),(106,.nilIface)] [103,104] (w69.alloc (.cells #[s0,i6 0,i6 0] 31)) [] trivial ?_
  obtain⟨w71,w75,b72,k73,z74⟩:=new_world w69 #[s0,i6 0,i6 0] 31
  rw[w75]
  refine xst (.agg #[sT bMe,i6 (pq (((lenP xs).1+pq 40 cl)+1) (rd ps 0)),i6 (pq (((lenP xs).1+pq 40 cl)+1) (rd ps 1))]) k73 0 #[sT bMe,i6 (pq (((lenP xs).1+pq 40 cl)+1) (rd ps 0)),i6 (pq (((lenP xs).1+pq 40 cl)+1) (rd ps 1))] (fun w76 g77 k78 z79=>?_)
  refine xr0 1 [(15,.nilIface)] [105,106] ?_
  refine nl (sq (sg (xr 12 [(110,.load (.agg #[sT bMe,i6 (pq (((lenP xs).1+pq 40 cl)+1) (rd ps 0)),i6 (pq (((lenP xs).1+pq 40 cl)+1) (rd ps 1))])),(114,.as bF)] [(116,bF),(117,pw g24 0),(118,pw d7 0)] [7,15] [la 31 (⟨w69.heap.size,0,none⟩) (.agg #[sT bMe,i6 (pq (((lenP xs).1+pq 40 cl)+1) (rd ps 0)),i6 (pq (((lenP xs).1+pq 40 cl)+1) (rd ps 1))]) w76,RunsAs Tryz.prog [(110,.agg #[sT bMe,i6 (pq (((lenP xs).1+pq 40 cl)+1) (rd ps 0)),i6 (pq (((lenP xs).1+pq 40 cl)+1) (rd ps 1))]),(113,.agg #[sT (⟨#[109,101]⟩:ByteArray),i6 (pq (((lenP xs).1+pq 40 cl)+1) (rd ps 0)),i6 (pq (((lenP xs).1+pq 40 cl)+1) (rd ps 1))])] (Go.Op.binOp Go.BinOp.neq 31 (Go.Operand.tmp 110) (Go.Operand.tmp 113) 31) 4 bF w76] ⟨loadsB rfl rfl k78 0 ⟨by kernel_rfl,by kernel_rfl⟩,runs_bin rfl rfl (run_eqGuard_agg _ _ _ _ _ _ _ (by kernel_rfl)) (mark_neq (bMe,(pq (((lenP xs).1+pq 40 cl)+1) (rd ps 0)),(pq (((lenP xs).1+pq 40 cl)+1) (rd ps 1))) _),trivial⟩ ?_)))
  have B80:Below wB.heap.size wB w76:=(bg (bt (bt B68 b70) b72) g77 ((bt B68 b70)).size)
  have hmv119_:=nb_mv hnp1_ hnp2_ hnq1_ hnq2_
  have O86:=(M60.below (bg (bt b70 b72) g77 (b70).size))
  refine xc 16 ent16 [pw g24 0,pw d7 0,sT (⟨#[109,101]⟩:ByteArray)] (O86.move d7 xs bMe ((hdC_.below B80)) hbd_ (by omega) hz (hT.below B80) es (hE.below B80) (B80).size) ?_
  rintro e w81 ⟨rfl,Q84,M82,N85,C83⟩; refine⟨_,rfl,?_⟩
  have hlo87:Below wB.heap.size w76 w81:=C83.lo (B80).size (fun g_ h_=>(O86.lt g_ h_).1)
  have k88:=C83.blk k78 (fun h_=>absurd (M60.lt _ h_).2 (Nat.not_lt.2 (b70).size))
  have hno89:¬Q84 w69.heap.size:=N85.no (fun h_=>absurd (M60.lt _ h_).2 (Nat.not_lt.2 (b70).size)) (Blk.lt k78)
  rw[hmv119_.2]at M82
  rw[hmv119_.1,errV_zero]
  refine xe0 2 [(0,aL A xs c),(10,i6 (((lenP xs).1)+(pq 40 cl))),(11,pw g24 0),(12,i6 (pq (((lenP xs).1+pq 40 cl)+1) (rd ps 0))),(13,i6 (pq (((lenP xs).1+pq 40 cl)+1) (rd ps 1))),(14,pw w69.heap.size 0),(121,bF)] ?_
  refine nl (cf (sk (sg (xr0 1 [(123,pw g24 0)] [121] ?_))))
  refine xc 17 ent17 [pw g24 0,sT (⟨#[109,101]⟩:ByteArray)] (M82.get bMe (by decide) (hT.below (Below.trans B80 hlo87)) es (hE.below (Below.trans B80 hlo87))) ?_
  rintro e w92 ⟨rfl,b93⟩; refine⟨_,rfl,?_⟩
  rw[(nb_g _ _ _ _).1,(nb_g _ _ _ _).2,errV_zero]
  refine xr0 3 [(125,.agg #[sT bMe,i6 ((plE xs (pq (((lenP xs).1+pq 40 cl)+1) (rd ps 0)) true).1),i6 ((plE xs (pq (((lenP xs).1+pq 40 cl)+1) (rd ps 1)) true).1)]),(126,.nilIface)] [123,124] ?_
  refine xst (.agg #[sT bMe,i6 ((plE xs (pq (((lenP xs).1+pq 40 cl)+1) (rd ps 0)) true).1),i6 ((plE xs (pq (((lenP xs).1+pq 40 cl)+1) (rd ps 1)) true).1)]) (Blk.below k88 b93) 0 #[sT bMe,i6 ((plE xs (pq (((lenP xs).1+pq 40 cl)+1) (rd ps 0)) true).1),i6 ((plE xs (pq (((lenP xs).1+pq 40 cl)+1) (rd ps 1)) true).1)] (fun w94 g95 k96 z97=>?_)
  refine xr0 1 [(15,.nilIface)] [125,126] ?_
  refine nl (sg (xr0 1 [(128,pw g24 0)] [11] ?_))
  have O98:=((M82.below b93).far (Chg.grown (S:=(· =w69.heap.size)) g95 (fun k_ e_=>(Option.some.inj e_).symm)) (fun k_ h1_ h2_=>hno89 (h2_▸h1_)))
  have B99:Below wB.heap.size wB w94:=(bg (bt (Below.trans B80 hlo87) b93) g95 ((bt B68 b70)).size)
  refine xc 17 ent17 [pw g24 0,sT (⟨#[121,111,117]⟩:ByteArray)] (O98.get bYou (by decide) (hT.below B99) es (hE.below B99)) ?_
  rintro e w100 ⟨rfl,b101⟩; refine⟨_,rfl,?_⟩
  rw[(nb_h _ _ _ _).1,(nb_h _ _ _ _).2,errV_zero]
  refine xw 4 [] [(16,pw w100.heap.size 0),(130,.agg #[sT bYou,i6 ((plE xs (pq (((lenP xs).1+pq 40 cl)+1) (rd ps 0)) false).1),i6 ((plE xs (pq (((lenP xs).1+pq 40 cl)+1) (rd ps 1)) false).1)]),(131,.nilIface)] [128,129] (w100.alloc (.cells #[s0,i6 0,i6 0] 31)) [] trivial ?_
  obtain⟨w102,w106,b103,k104,z105⟩:=new_world w100 #[s0,i6 0,i6 0] 31
  rw[w106]
  refine xst (.agg #[sT bYou,i6 ((plE xs (pq (((lenP xs).1+pq 40 cl)+1) (rd ps 0)) false).1),i6 ((plE xs (pq (((lenP xs).1+pq 40 cl)+1) (rd ps 1)) false).1)]) k104 0 #[sT bYou,i6 ((plE xs (pq (((lenP xs).1+pq 40 cl)+1) (rd ps 0)) false).1),i6 ((plE xs (pq (((lenP xs).1+pq 40 cl)+1) (rd ps 1)) false).1)] (fun w107 g108 k109 z110=>?_)
  refine xe0 1 [(0,aL A xs c),(10,i6 (((lenP xs).1)+(pq 40 cl))),(12,i6 (pq (((lenP xs).1+pq 40 cl)+1) (rd ps 0))),(13,i6 (pq (((lenP xs).1+pq 40 cl)+1) (rd ps 1))),(14,pw w69.heap.size 0),(15,.nilIface),(16,pw w100.heap.size 0),(17,.nilIface)] ?_
  refine nl (sq (sg (xr0 6 [(137,bF)] [15,17] ?_)))
  refine nl (cf (sk (sg (xr0 2 [(138,i6 (((lenP xs).1)+(pq 40 cl))),(139,aL A xs c)] [137] ?_))))
  have B111:Below wB.heap.size wB w107:=(bg (bt (bt B99 b101) b103) g108 ((bt B99 b101)).size)
  refine xc 18 ent18 [aL A xs c] (r8ins_any _ _ xs _ (Kd.C_below hx (bt (bt (bt b2 b4) b15) B111)) (by omega) hz hbd_ (by omega) (by omega)) ?_
  rintro e w112 ⟨rfl,b113⟩; refine⟨_,rfl,?_⟩
  have hib_:=ins_bd hbd_ hz xs.length
  rw[List.take_length]at hib_
  refine xr1 2 [(141,.eq (i6 ((((lenP xs).1)+(pq 40 cl))+(sumI insF xs))))] [(141,i6 ((((lenP xs).1)+(pq 40 cl))+(sumI insF xs))),(142,aL A xs c)] [138,139,140] (w6 ((((lenP xs).1)+(pq 40 cl))+(sumI insF xs))) ?_
  have B114:Below w0.heap.size w0 w112:=(bt (bt (bt b2 b4) b15) (bt B111 b113))
  refine xc 19 ent19 [aL A xs c] (r8del_any _ _ xs _ (Kd.C_below hx B114) (by omega) hz hbd_ (by omega) (by omega)) ?_
  rintro e w115 ⟨rfl,b116⟩; refine⟨_,rfl,?_⟩
  refine xr1 2 [(144,.eq (i6 (((((lenP xs).1)+(pq 40 cl))+(sumI insF xs))-(sumI delF xs))))] [(18,i6 (((((lenP xs).1)+(pq 40 cl))+(sumI insF xs))-(sumI delF xs)))] [141,142,143] (w6 (((((lenP xs).1)+(pq 40 cl))+(sumI insF xs))-(sumI delF xs))) ?_
  refine nl (sq (X_region ?_))
  have B117:Below w94.heap.size w94 w115:=(bt (bt (bg (bt b101 b103) g108 (b101).size) b113) b116)
  refine xw 13 [(147,.load (i6 ((plE xs (pq (((lenP xs).1+pq 40 cl)+1) (rd ps 0)) true).1))),(149,.load (i6 ((plE xs (pq (((lenP xs).1+pq 40 cl)+1) (rd ps 0)) false).1))),(153,.load (i6 ((plE xs (pq (((lenP xs).1+pq 40 cl)+1) (rd ps 1)) true).1))),(155,.load (i6 ((plE xs (pq (((lenP xs).1+pq 40 cl)+1) (rd ps 1)) false).1)))] [(157,.slice (some ⟨w115.heap.size,0,none⟩) 2 2)] [12,13,14,16] (w115.alloc (.cells #[i6 (pq (((lenP xs).1+pq 40 cl)+1) (rd ps 0)),i6 ((plE xs (pq (((lenP xs).1+pq 40 cl)+1) (rd ps 0)) true).1),i6 ((plE xs (pq (((lenP xs).1+pq 40 cl)+1) (rd ps 0)) false).1),i6 (pq (((lenP xs).1+pq 40 cl)+1) (rd ps 1)),i6 ((plE xs (pq (((lenP xs).1+pq 40 cl)+1) (rd ps 1)) true).1),i6 ((plE xs (pq (((lenP xs).1+pq 40 cl)+1) (rd ps 1)) false).1)] 50)) [_,_,_,_] ⟨lc 3 (Blk.below k96 B117) 1,lc 3 (Blk.below k109 (bt b113 b116)) 1,lc 3 (Blk.below k96 B117) 2,lc 3 (Blk.below k109 (bt b113 b116)) 2,trivial⟩ ?_
  obtain⟨w118,w122,b119,k120,z121⟩:=new_world w115 #[i6 (pq (((lenP xs).1+pq 40 cl)+1) (rd ps 0)),i6 ((plE xs (pq (((lenP xs).1+pq 40 cl)+1) (rd ps 0)) true).1),i6 ((plE xs (pq (((lenP xs).1+pq 40 cl)+1) (rd ps 0)) false).1),i6 (pq (((lenP xs).1+pq 40 cl)+1) (rd ps 1)),i6 ((plE xs (pq (((lenP xs).1+pq 40 cl)+1) (rd ps 1)) true).1),i6 ((plE xs (pq (((lenP xs).1+pq 40 cl)+1) (rd ps 1)) false).1)] 50
  rw[w122]
  refine xe0 1 [(0,aL A xs c),(10,i6 (((lenP xs).1)+(pq 40 cl))),(18,i6 (((((lenP xs).1)+(pq 40 cl))+(sumI insF xs))-(sumI delF xs))),(19,.slice (some ⟨w115.heap.size,0,none⟩) 2 2)] ?_
  refine nl (sq (sg (xr0 3 [(158,.slice (some ⟨w115.heap.size,0,none⟩) 2 2),(159,i6 2),(160,i6 0)] [19] ?_)))
  refine nl (X_block ?_)
  have r123:=Kd.R_litB kArr3 (W:=w115) (e:=50) (cs:=#[i6 (pq (((lenP xs).1+pq 40 cl)+1) (rd ps 0)),i6 ((plE xs (pq (((lenP xs).1+pq 40 cl)+1) (rd ps 0)) true).1),i6 ((plE xs (pq (((lenP xs).1+pq 40 cl)+1) (rd ps 0)) false).1),i6 (pq (((lenP xs).1+pq 40 cl)+1) (rd ps 1)),i6 ((plE xs (pq (((lenP xs).1+pq 40 cl)+1) (rd ps 1)) true).1),i6 ((plE xs (pq (((lenP xs).1+pq 40 cl)+1) (rd ps 1)) false).1)]) [((pq (((lenP xs).1+pq 40 cl)+1) (rd ps 0)),(plE xs (pq (((lenP xs).1+pq 40 cl)+1) (rd ps 0)) true).1,(plE xs (pq (((lenP xs).1+pq 40 cl)+1) (rd ps 0)) false).1),((pq (((lenP xs).1+pq 40 cl)+1) (rd ps 1)),(plE xs (pq (((lenP xs).1+pq 40 cl)+1) (rd ps 1)) true).1,(plE xs (pq (((lenP xs).1+pq 40 cl)+1) (rd ps 1)) false).1)] k120 (repsArr3 [((pq (((lenP xs).1+pq 40 cl)+1) (rd ps 0)),(plE xs (pq (((lenP xs).1+pq 40 cl)+1) (rd ps 0)) true).1,(plE xs (pq (((lenP xs).1+pq 40 cl)+1) (rd ps 0)) false).1),((pq (((lenP xs).1+pq 40 cl)+1) (rd ps 1)),(plE xs (pq (((lenP xs).1+pq 40 cl)+1) (rd ps 1)) true).1,(plE xs (pq (((lenP xs).1+pq 40 cl)+1) (rd ps 1)) false).1)]) (Nat.le_of_ble_eq_true (by kernel_rfl))
  have hr3_:=r123
  obtain⟨L_,hL2_⟩:∃ L_:List (Int×Int×Int),L_=[((pq (((lenP xs).1+pq 40 cl)+1) (rd ps 0)),(plE xs (pq (((lenP xs).1+pq 40 cl)+1) (rd ps 0)) true).1,(plE xs (pq (((lenP xs).1+pq 40 cl)+1) (rd ps 0)) false).1),((pq (((lenP xs).1+pq 40 cl)+1) (rd ps 1)),(plE xs (pq (((lenP xs).1+pq 40 cl)+1) (rd ps 1)) true).1,(plE xs (pq (((lenP xs).1+pq 40 cl)+1) (rd ps 1)) false).1)]:=⟨_,rfl⟩
  rw[←hL2_]at hr3_
  have hC3_:kArr3.C w118 (some ⟨w115.heap.size,0,none⟩) 2 L_:=Kd_len2 (by rw[hL2_]; rfl) (Kd.R_C hr3_)
  have hall_:∀ c_∈L_,0≤c_.1∧c_.1≤((lenP xs).1+pq 40 cl)∧NbP xs ((lenP xs).1+pq 40 cl) c_.1 c_.2.1 c_.2.2:=by rw[hL2_]; intro c_ hc_; simp only[List.mem_cons,List.not_mem_nil,or_false]at hc_; rcases hc_ with rfl|rfl; (· exact⟨hpq0_.1,by show (pq (((lenP xs).1+pq 40 cl)+1) (rd ps 0))≤_; omega,hnbp_⟩); (· exact⟨hpq1_.1,by show (pq (((lenP xs).1+pq 40 cl)+1) (rd ps 1))≤_; omega,hnbq_⟩)
  refine X_loop (ι:=Nat) (fun i=>[(0,aL A xs c),(10,i6 (((lenP xs).1)+(pq 40 cl))),(18,i6 (((((lenP xs).1)+(pq 40 cl))+(sumI insF xs))-(sumI delF xs))),(158,.slice (some ⟨w115.heap.size,0,none⟩) 2 2),(159,i6 2),(160,i6 (i:Int))]) (fun i wl=>i≤2∧Below w118.heap.size w118 wl) (fun i=>2-i) 0 ⟨Nat.zero_le _,Below.refl _ _⟩ (by kernel_rfl) ?_
  rintro i wl ⟨hi,HB⟩
  have hc_:=fun(h_:i<2)=>hall_ (L_.getD i arr0) (getD_mem arr0 (by rw[hL2_]; exact h_))
  refine sq (X_region ?_)
  by_cases c124:(i:Int)<2
  ·refine xr1 1 [(161,.eq bT)] [(161,bT)] [] (dT c124) ?_
   refine nl (sq (ct (sk (sq (bk (sq (X_region ?_)))))))
   obtain⟨ad125,a126,c127⟩:=Kd.atArr3 (Kd.C_below hC3_ HB) (i:=(i:Int)) (by omega) (by omega)
   replace c127:CellsAt wl (ad125.add ((i:Int).toNat*3)) [i6 ((L_.getD i arr0).1),i6 ((L_.getD i arr0).2.1),i6 ((L_.getD i arr0).2.2)]:=c127
   refine xw 3 [(162,.idx ad125),(163,.load (.agg #[i6 ((L_.getD i arr0).1),i6 ((L_.getD i arr0).2.1),i6 ((L_.getD i arr0).2.2)]))] [(21,pw wl.heap.size 0),(163,.agg #[i6 ((L_.getD i arr0).1),i6 ((L_.getD i arr0).2.1),i6 ((L_.getD i arr0).2.2)])] [161] (wl.alloc (.cells #[i6 0,i6 0,i6 0] 50)) [(some ⟨w115.heap.size,0,none⟩)=some ad125,(0:Int)≤(i:Int),(i:Int)<(2:Int),la 50 (ad125.add ((i:Int).toNat*3)) (.agg #[i6 ((L_.getD i arr0).1),i6 ((L_.getD i arr0).2.1),i6 ((L_.getD i arr0).2.2)]) wl] ⟨a126,(by omega),(by omega),loadsE rfl rfl c127 0 ⟨by kernel_rfl,by kernel_rfl⟩,trivial⟩ ?_
   obtain⟨w129,w133,b130,k131,z132⟩:=new_world wl #[i6 0,i6 0,i6 0] 50
   rw[w133]
   refine xst (.agg #[i6 ((L_.getD i arr0).1),i6 ((L_.getD i arr0).2.1),i6 ((L_.getD i arr0).2.2)]) k131 0 #[i6 ((L_.getD i arr0).1),i6 ((L_.getD i arr0).2.1),i6 ((L_.getD i arr0).2.2)] (fun w134 g135 k136 z137=>?_)
   refine nl (sq (sg (xr1 2 [(165,.load (i6 ((L_.getD i arr0).2.1)))] [(165,i6 ((L_.getD i arr0).2.1))] [163] (lc 3 k136 1) ?_)))
   by_cases c143:(L_.getD i arr0).2.1<0
   ·refine xr1 19 [(166,.eq bT)] [(184,bT)] [165] (dT c143) ?_
    refine nl (ct (sg (xe0 1 [(6,bF)] ?_)))
    refine nl (X_ret (rj [bF] hR_ ?_))
    have h9_:=(hc_ (by omega)).2.2
    have h1_:=h9_.lo
    have h2_:=h9_.le
    have h3_:=h9_.hi
    exfalso; omega
   refine xr 5 [(166,.eq bF),(169,.load (i6 ((L_.getD i arr0).2.1)))] [(167,bF),(169,i6 ((L_.getD i arr0).2.1)),(170,i6 (((((lenP xs).1)+(pq 40 cl))+(sumI insF xs))-(sumI delF xs)))] [165] [_,_] ⟨dF c143,lc 3 k136 1,trivial⟩ ?_
   by_cases c144:(L_.getD i arr0).2.1>((((lenP xs).1)+(pq 40 cl))+(sumI insF xs))-(sumI delF xs)
   ·refine xr1 14 [(171,.eq bT)] [(184,bT)] [167,169,170] (dT c144) ?_
    refine nl (ct (sg (xe0 1 [(6,bF)] ?_)))
    refine nl (X_ret (rj [bF] hR_ ?_))
    have h9_:=(hc_ (by omega)).2.2
    have h1_:=h9_.lo
    have h2_:=h9_.le
    have h3_:=h9_.hi
    exfalso; omega
   refine xr 5 [(171,.eq bF),(175,.load (i6 ((L_.getD i arr0).2.2)))] [(173,bF),(175,i6 ((L_.getD i arr0).2.2))] [167,169,170] [_,_] ⟨dF c144,lc 3 k136 2,trivial⟩ ?_
   by_cases c145:(L_.getD i arr0).2.2<0
   ·refine xe1 9 [(176,.eq bT)] [(0,aL A xs c),(10,i6 (((lenP xs).1)+(pq 40 cl))),(18,i6 (((((lenP xs).1)+(pq 40 cl))+(sumI insF xs))-(sumI delF xs))),(21,pw wl.heap.size 0),(158,.slice (some ⟨w115.heap.size,0,none⟩) 2 2),(159,i6 2),(160,nv i),(184,bT)] (dT c145) ?_
    refine nl (ct (sg (xe0 1 [(6,bF)] ?_)))
    refine nl (X_ret (rj [bF] hR_ ?_))
    have h9_:=(hc_ (by omega)).2.2
    have h1_:=h9_.lo
    have h2_:=h9_.le
    have h3_:=h9_.hi
    exfalso; omega
   refine xe 7 [(176,.eq bF),(180,.load (i6 ((L_.getD i arr0).2.2))),(182,.load (i6 ((L_.getD i arr0).2.1)))] [(0,aL A xs c),(10,i6 (((lenP xs).1)+(pq 40 cl))),(18,i6 (((((lenP xs).1)+(pq 40 cl))+(sumI insF xs))-(sumI delF xs))),(21,pw wl.heap.size 0),(158,.slice (some ⟨w115.heap.size,0,none⟩) 2 2),(159,i6 2),(160,nv i),(178,bF),(180,i6 ((L_.getD i arr0).2.2)),(182,i6 ((L_.getD i arr0).2.1))] [_,_,_] ⟨dF c145,lc 3 k136 2,lc 3 k136 1,trivial⟩ ?_
   by_cases c146:(L_.getD i arr0).2.2>(L_.getD i arr0).2.1
   ·refine xr1 2 [(183,.eq bT)] [(184,bT)] [178,180,182] (dT c146) ?_
    refine nl (ct (sg (xe0 1 [(6,bF)] ?_)))
    refine nl (X_ret (rj [bF] hR_ ?_))
    have h9_:=(hc_ (by omega)).2.2
    have h1_:=h9_.lo
    have h2_:=h9_.le
    have h3_:=h9_.hi
    exfalso; omega
   refine xr1 2 [(183,.eq bF)] [(184,bF)] [178,180,182] (dF c146) ?_
   refine nl (cf (sk (sg (xr1 3 [(188,.load (i6 ((L_.getD i arr0).1)))] [(186,aL A xs c),(188,i6 ((L_.getD i arr0).1))] [184] (lc 3 k136 0) ?_))))
   have hcb_:=hc_ (by omega)
   have B147:Below wB.heap.size wB wl:=(bt (bt (bt (bt B111 b113) b116) b119) HB)
   have B148:Below wB.heap.size wB w134:=(bg (bt (bt (bt (bt (bt B111 b113) b116) b119) HB) b130) g135 (B147).size)
   refine xc 20 ent20 [.slice A xs.length c,i6 ((L_.getD i arr0).1)] (near_any _ _ xs _ (Kd.C_below hx (bt (bt (bt b2 b4) b15) B148)) (by omega) hz ((L_.getD i arr0).1) hbd_ (by omega) (by omega) (by omega) (by omega)) ?_
   rintro e w149 ⟨rfl,b150⟩; refine⟨_,rfl,?_⟩
   refine xr0 5 [(22,i6 ((nrP ((L_.getD i arr0).1) (xs.map pelO) 0 0).1)),(23,.bool ((nrP ((L_.getD i arr0).1) (xs.map pelO) 0 0).2))] [186,188,189] ?_
   refine nl (sq (sg (xr1 3 [(193,.load (i6 ((L_.getD i arr0).1)))] [(193,i6 ((L_.getD i arr0).1)),(194,i6 (((lenP xs).1)+(pq 40 cl)))] [] (lc 3 (Blk.below k136 b150) 0) ?_)))
   by_cases c151:(L_.getD i arr0).1<((lenP xs).1)+(pq 40 cl)
   ·refine xr1 5 [(195,.eq bT)] [(199,.bool ((nrP ((L_.getD i arr0).1) (xs.map pelO) 0 0).2))] [23,193,194] (dT c151) ?_
    by_cases c152:(nrP ((L_.getD i arr0).1) (xs.map pelO) 0 0).2=true
    ·rw[show ((nrP ((L_.getD i arr0).1) (xs.map pelO) 0 0).2:Bool)=true from by simpa using c152]
     refine xe1 3 [(201,.load (i6 ((L_.getD i arr0).2.1)))] [(0,aL A xs c),(10,i6 (((lenP xs).1)+(pq 40 cl))),(18,i6 (((((lenP xs).1)+(pq 40 cl))+(sumI insF xs))-(sumI delF xs))),(21,pw wl.heap.size 0),(158,.slice (some ⟨w115.heap.size,0,none⟩) 2 2),(159,i6 2),(160,nv i),(199,bT),(201,i6 ((L_.getD i arr0).2.1)),(202,i6 ((nrP ((L_.getD i arr0).1) (xs.map pelO) 0 0).1))] (lc 3 (Blk.below k136 b150) 1) ?_
     by_cases c153:(L_.getD i arr0).2.1=(nrP ((L_.getD i arr0).1) (xs.map pelO) 0 0).1
     ·refine xr1 2 [(203,.eq bF)] [(204,bF)] [199,201,202] (nF c153) ?_
      refine nl (cf (sk (sq (sg (xr1 2 [(206,.load (i6 ((L_.getD i arr0).1)))] [(206,i6 ((L_.getD i arr0).1))] [204] (lc 3 (Blk.below k136 b150) 0) ?_)))))
      by_cases c154:(L_.getD i arr0).1=0
      ·refine xr1 1 [(207,.eq bT)] [(207,bT)] [206] (bE c154) ?_
       refine nl (ct (X_exit (rg (xr1 2 [(224,.eq (i6 ((i:Int)+1)))] [(160,i6 ((i:Int)+1))] [21,207] (w6 ((i:Int)+1)) ?_))))
       refine nl ?_
       have B155:Below w118.heap.size w118 w149:=(bt (bg (bt HB b130) g135 (HB).size) b150)
       refine⟨(i+1),by kernel_rfl,?_,?_⟩
       ·exact⟨by omega,B155⟩
       (try dsimp only); omega
      refine xr1 1 [(207,.eq bF)] [(207,bF)] [206] (bN c154) ?_
      refine nl (cf (sk (sq (X_region ?_))))
      refine xr 4 [(211,.load (i6 ((L_.getD i arr0).1))),(212,.eq (i6 (((L_.getD i arr0).1)-1)))] [(209,aL A xs c),(212,i6 (((L_.getD i arr0).1)-1))] [207] [_,i6 (IntKind.i64.wrap (((L_.getD i arr0).1)-1))=i6 (((L_.getD i arr0).1)-1)] ⟨lc 3 (Blk.below k136 b150) 0,wr_i64 (by have h_:=hc_ (by omega); omega) (by have h_:=hc_ (by omega); omega),trivial⟩ ?_
      have hcb_:=hc_ (by omega)
      have B156:Below w0.heap.size w0 w149:=(bt (bt (bt b2 b4) b15) (bt B148 b150))
      refine xc 20 ent20 [.slice A xs.length c,i6 (((L_.getD i arr0).1)-1)] (near_any _ _ xs _ (Kd.C_below hx B156) (by omega) hz (((L_.getD i arr0).1)-1) hbd_ (by omega) (by omega) (by omega) (by omega)) ?_
      rintro e w157 ⟨rfl,b158⟩; refine⟨_,rfl,?_⟩
      refine xr0 5 [(22,i6 ((nrP (((L_.getD i arr0).1)-1) (xs.map pelO) 0 0).1)),(23,.bool ((nrP (((L_.getD i arr0).1)-1) (xs.map pelO) 0 0).2))] [209,212,213] ?_
      refine nl (sg (xe0 2 [(0,aL A xs c),(10,i6 (((lenP xs).1)+(pq 40 cl))),(18,i6 (((((lenP xs).1)+(pq 40 cl))+(sumI insF xs))-(sumI delF xs))),(21,pw wl.heap.size 0),(22,i6 ((nrP (((L_.getD i arr0).1)-1) (xs.map pelO) 0 0).1)),(158,.slice (some ⟨w115.heap.size,0,none⟩) 2 2),(159,i6 2),(160,nv i),(217,.bool ((nrP (((L_.getD i arr0).1)-1) (xs.map pelO) 0 0).2))] ?_))
      by_cases c159:(nrP (((L_.getD i arr0).1)-1) (xs.map pelO) 0 0).2=true
      ·rw[show ((nrP (((L_.getD i arr0).1)-1) (xs.map pelO) 0 0).2:Bool)=true from by simpa using c159]
       refine xr 4 [(219,.load (i6 ((L_.getD i arr0).2.2))),(221,.eq (i6 (((nrP (((L_.getD i arr0).1)-1) (xs.map pelO) 0 0).1)+1)))] [(217,bT),(219,i6 ((L_.getD i arr0).2.2)),(221,i6 (((nrP (((L_.getD i arr0).1)-1) (xs.map pelO) 0 0).1)+1))] [21,22] [_,i6 (IntKind.i64.wrap (((nrP (((L_.getD i arr0).1)-1) (xs.map pelO) 0 0).1)+1))=i6 (((nrP (((L_.getD i arr0).1)-1) (xs.map pelO) 0 0).1)+1)] ⟨lc 3 (Blk.below k136 (bt b150 b158)) 2,wr_i64 (by have h9_:=(hc_ (by omega)).2.2; have h1_:=h9_.lo; have h2_:=h9_.le; have h3_:=h9_.hi; have h4_:=h9_.f (by omega) (by assumption); omega) (by have h9_:=(hc_ (by omega)).2.2; have h1_:=h9_.lo; have h2_:=h9_.le; have h3_:=h9_.hi; have h4_:=h9_.f (by omega) (by assumption); omega),trivial⟩ ?_
       by_cases c160:(L_.getD i arr0).2.2=((nrP (((L_.getD i arr0).1)-1) (xs.map pelO) 0 0).1)+1
       ·refine xr1 2 [(222,.eq bF)] [(223,bF)] [217,219,221] (nF c160) ?_
        refine nl (cf (sk (rg (xr1 2 [(224,.eq (i6 ((i:Int)+1)))] [(160,i6 ((i:Int)+1))] [223] (w6 ((i:Int)+1)) ?_))))
        refine nl ?_
        have B161:Below w118.heap.size w118 w157:=(bt (bt (bg (bt HB b130) g135 (HB).size) b150) b158)
        refine⟨(i+1),by kernel_rfl,?_,?_⟩
        ·exact⟨by omega,B161⟩
        (try dsimp only); omega
       refine xr1 2 [(222,.eq bT)] [(223,bT)] [217,219,221] (nT c160) ?_
       refine nl (ct (sg (xe0 1 [(6,bF)] ?_)))
       refine nl (X_ret (rj [bF] hR_ ?_))
       have h9_:=(hc_ (by omega)).2.2
       have h1_:=h9_.lo
       have h2_:=h9_.le
       have h3_:=h9_.hi
       have h4_:=h9_.t c152
       have h4_:=h9_.f (by omega) c159
       exfalso; omega
      rw[show ((nrP (((L_.getD i arr0).1)-1) (xs.map pelO) 0 0).2:Bool)=false from by simpa using c159]
      refine xr0 6 [(223,bF)] [21,22,217] ?_
      refine nl (cf (sk (rg (xr1 2 [(224,.eq (i6 ((i:Int)+1)))] [(160,i6 ((i:Int)+1))] [223] (w6 ((i:Int)+1)) ?_))))
      refine nl ?_
      have B162:Below w118.heap.size w118 w157:=(bt (bt (bg (bt HB b130) g135 (HB).size) b150) b158)
      refine⟨(i+1),by kernel_rfl,?_,?_⟩
      ·exact⟨by omega,B162⟩
      (try dsimp only); omega
     refine xr1 2 [(203,.eq bT)] [(204,bT)] [199,201,202] (nT c153) ?_
     refine nl (ct (sg (xe0 1 [(6,bF)] ?_)))
     refine nl (X_ret (rj [bF] hR_ ?_))
     have h9_:=(hc_ (by omega)).2.2
     have h1_:=h9_.lo
     have h2_:=h9_.le
     have h3_:=h9_.hi
     have h4_:=h9_.t c152
     exfalso; omega
    rw[show ((nrP ((L_.getD i arr0).1) (xs.map pelO) 0 0).2:Bool)=false from by simpa using c152]
    refine xe0 5 [(0,aL A xs c),(10,i6 (((lenP xs).1)+(pq 40 cl))),(18,i6 (((((lenP xs).1)+(pq 40 cl))+(sumI insF xs))-(sumI delF xs))),(21,pw wl.heap.size 0),(158,.slice (some ⟨w115.heap.size,0,none⟩) 2 2),(159,i6 2),(160,nv i),(204,bF)] ?_
    refine nl (cf (sk (sq (sg (xr1 2 [(206,.load (i6 ((L_.getD i arr0).1)))] [(206,i6 ((L_.getD i arr0).1))] [204] (lc 3 (Blk.below k136 b150) 0) ?_)))))
    by_cases c163:(L_.getD i arr0).1=0
    ·refine xr1 1 [(207,.eq bT)] [(207,bT)] [206] (bE c163) ?_
     refine nl (ct (X_exit (rg (xr1 2 [(224,.eq (i6 ((i:Int)+1)))] [(160,i6 ((i:Int)+1))] [21,207] (w6 ((i:Int)+1)) ?_))))
     refine nl ?_
     have B164:Below w118.heap.size w118 w149:=(bt (bg (bt HB b130) g135 (HB).size) b150)
     refine⟨(i+1),by kernel_rfl,?_,?_⟩
     ·exact⟨by omega,B164⟩
     (try dsimp only); omega
    refine xr1 1 [(207,.eq bF)] [(207,bF)] [206] (bN c163) ?_
    refine nl (cf (sk (sq (X_region ?_))))
    refine xr 4 [(211,.load (i6 ((L_.getD i arr0).1))),(212,.eq (i6 (((L_.getD i arr0).1)-1)))] [(209,aL A xs c),(212,i6 (((L_.getD i arr0).1)-1))] [207] [_,i6 (IntKind.i64.wrap (((L_.getD i arr0).1)-1))=i6 (((L_.getD i arr0).1)-1)] ⟨lc 3 (Blk.below k136 b150) 0,wr_i64 (by have h_:=hc_ (by omega); omega) (by have h_:=hc_ (by omega); omega),trivial⟩ ?_
    have hcb_:=hc_ (by omega)
    have B165:Below w0.heap.size w0 w149:=(bt (bt (bt b2 b4) b15) (bt B148 b150))
    refine xc 20 ent20 [.slice A xs.length c,i6 (((L_.getD i arr0).1)-1)] (near_any _ _ xs _ (Kd.C_below hx B165) (by omega) hz (((L_.getD i arr0).1)-1) hbd_ (by omega) (by omega) (by omega) (by omega)) ?_
    rintro e w166 ⟨rfl,b167⟩; refine⟨_,rfl,?_⟩
    refine xr0 5 [(22,i6 ((nrP (((L_.getD i arr0).1)-1) (xs.map pelO) 0 0).1)),(23,.bool ((nrP (((L_.getD i arr0).1)-1) (xs.map pelO) 0 0).2))] [209,212,213] ?_
    refine nl (sg (xr0 2 [(217,.bool ((nrP (((L_.getD i arr0).1)-1) (xs.map pelO) 0 0).2))] [23] ?_))
    by_cases c168:(nrP (((L_.getD i arr0).1)-1) (xs.map pelO) 0 0).2=true
    ·rw[show ((nrP (((L_.getD i arr0).1)-1) (xs.map pelO) 0 0).2:Bool)=true from by simpa using c168]
     refine xe 4 [(219,.load (i6 ((L_.getD i arr0).2.2))),(221,.eq (i6 (((nrP (((L_.getD i arr0).1)-1) (xs.map pelO) 0 0).1)+1)))] [(0,aL A xs c),(10,i6 (((lenP xs).1)+(pq 40 cl))),(18,i6 (((((lenP xs).1)+(pq 40 cl))+(sumI insF xs))-(sumI delF xs))),(158,.slice (some ⟨w115.heap.size,0,none⟩) 2 2),(159,i6 2),(160,nv i),(217,bT),(219,i6 ((L_.getD i arr0).2.2)),(221,i6 (((nrP (((L_.getD i arr0).1)-1) (xs.map pelO) 0 0).1)+1))] [_,i6 (IntKind.i64.wrap (((nrP (((L_.getD i arr0).1)-1) (xs.map pelO) 0 0).1)+1))=i6 (((nrP (((L_.getD i arr0).1)-1) (xs.map pelO) 0 0).1)+1)] ⟨lc 3 (Blk.below k136 (bt b150 b167)) 2,wr_i64 (by have h9_:=(hc_ (by omega)).2.2; have h1_:=h9_.lo; have h2_:=h9_.le; have h3_:=h9_.hi; have h4_:=h9_.f (by omega) (by assumption); omega) (by have h9_:=(hc_ (by omega)).2.2; have h1_:=h9_.lo; have h2_:=h9_.le; have h3_:=h9_.hi; have h4_:=h9_.f (by omega) (by assumption); omega),trivial⟩ ?_
     by_cases c169:(L_.getD i arr0).2.2=((nrP (((L_.getD i arr0).1)-1) (xs.map pelO) 0 0).1)+1
     ·refine xr1 2 [(222,.eq bF)] [(223,bF)] [217,219,221] (nF c169) ?_
      refine nl (cf (sk (rg (xr1 2 [(224,.eq (i6 ((i:Int)+1)))] [(160,i6 ((i:Int)+1))] [223] (w6 ((i:Int)+1)) ?_))))
      refine nl ?_
      have B170:Below w118.heap.size w118 w166:=(bt (bt (bg (bt HB b130) g135 (HB).size) b150) b167)
      refine⟨(i+1),by kernel_rfl,?_,?_⟩
      ·exact⟨by omega,B170⟩
      (try dsimp only); omega
     refine xr1 2 [(222,.eq bT)] [(223,bT)] [217,219,221] (nT c169) ?_
     refine nl (ct (sg (xe0 1 [(6,bF)] ?_)))
     refine nl (X_ret (rj [bF] hR_ ?_))
     have h9_:=(hc_ (by omega)).2.2
     have h1_:=h9_.lo
     have h2_:=h9_.le
     have h3_:=h9_.hi
     have h4_:=h9_.f (by omega) c168
     exfalso; omega
    rw[show ((nrP (((L_.getD i arr0).1)-1) (xs.map pelO) 0 0).2:Bool)=false from by simpa using c168]
    refine xe0 6 [(0,aL A xs c),(10,i6 (((lenP xs).1)+(pq 40 cl))),(18,i6 (((((lenP xs).1)+(pq 40 cl))+(sumI insF xs))-(sumI delF xs))),(158,.slice (some ⟨w115.heap.size,0,none⟩) 2 2),(159,i6 2),(160,nv i),(223,bF)] ?_
    refine nl (cf (sk (rg (xr1 2 [(224,.eq (i6 ((i:Int)+1)))] [(160,i6 ((i:Int)+1))] [223] (w6 ((i:Int)+1)) ?_))))
    refine nl ?_
    have B171:Below w118.heap.size w118 w166:=(bt (bt (bg (bt HB b130) g135 (HB).size) b150) b167)
    refine⟨(i+1),by kernel_rfl,?_,?_⟩
    ·exact⟨by omega,B171⟩
    (try dsimp only); omega
   refine xr1 10 [(195,.eq bF)] [(204,bF)] [22,23,193,194] (dF c151) ?_
   refine nl (cf (sk (sq (sg (xe1 2 [(206,.load (i6 ((L_.getD i arr0).1)))] [(0,aL A xs c),(10,i6 (((lenP xs).1)+(pq 40 cl))),(18,i6 (((((lenP xs).1)+(pq 40 cl))+(sumI insF xs))-(sumI delF xs))),(21,pw wl.heap.size 0),(158,.slice (some ⟨w115.heap.size,0,none⟩) 2 2),(159,i6 2),(160,nv i),(206,i6 ((L_.getD i arr0).1))] (lc 3 (Blk.below k136 b150) 0) ?_)))))
   by_cases c172:(L_.getD i arr0).1=0
   ·refine xr1 1 [(207,.eq bT)] [(207,bT)] [206] (bE c172) ?_
    refine nl (ct (X_exit (rg (xr1 2 [(224,.eq (i6 ((i:Int)+1)))] [(160,i6 ((i:Int)+1))] [21,207] (w6 ((i:Int)+1)) ?_))))
    refine nl ?_
    have B173:Below w118.heap.size w118 w149:=(bt (bg (bt HB b130) g135 (HB).size) b150)
    refine⟨(i+1),by kernel_rfl,?_,?_⟩
    ·exact⟨by omega,B173⟩
    (try dsimp only); omega
   refine xr1 1 [(207,.eq bF)] [(207,bF)] [206] (bN c172) ?_
   refine nl (cf (sk (sq (X_region ?_))))
   refine xr 4 [(211,.load (i6 ((L_.getD i arr0).1))),(212,.eq (i6 (((L_.getD i arr0).1)-1)))] [(209,aL A xs c),(212,i6 (((L_.getD i arr0).1)-1))] [207] [_,i6 (IntKind.i64.wrap (((L_.getD i arr0).1)-1))=i6 (((L_.getD i arr0).1)-1)] ⟨lc 3 (Blk.below k136 b150) 0,wr_i64 (by have h_:=hc_ (by omega); omega) (by have h_:=hc_ (by omega); omega),trivial⟩ ?_
   have hcb_:=hc_ (by omega)
   have B174:Below w0.heap.size w0 w149:=(bt (bt (bt b2 b4) b15) (bt B148 b150))
   refine xc 20 ent20 [.slice A xs.length c,i6 (((L_.getD i arr0).1)-1)] (near_any _ _ xs _ (Kd.C_below hx B174) (by omega) hz (((L_.getD i arr0).1)-1) hbd_ (by omega) (by omega) (by omega) (by omega)) ?_
   rintro e w175 ⟨rfl,b176⟩; refine⟨_,rfl,?_⟩
   refine xr0 5 [(22,i6 ((nrP (((L_.getD i arr0).1)-1) (xs.map pelO) 0 0).1)),(23,.bool ((nrP (((L_.getD i arr0).1)-1) (xs.map pelO) 0 0).2))] [209,212,213] ?_
   refine nl (sg (xr0 2 [(217,.bool ((nrP (((L_.getD i arr0).1)-1) (xs.map pelO) 0 0).2))] [23] ?_))
   by_cases c177:(nrP (((L_.getD i arr0).1)-1) (xs.map pelO) 0 0).2=true
   ·rw[show ((nrP (((L_.getD i arr0).1)-1) (xs.map pelO) 0 0).2:Bool)=true from by simpa using c177]
    refine xr 4 [(219,.load (i6 ((L_.getD i arr0).2.2))),(221,.eq (i6 (((nrP (((L_.getD i arr0).1)-1) (xs.map pelO) 0 0).1)+1)))] [(217,bT),(219,i6 ((L_.getD i arr0).2.2)),(221,i6 (((nrP (((L_.getD i arr0).1)-1) (xs.map pelO) 0 0).1)+1))] [21,22] [_,i6 (IntKind.i64.wrap (((nrP (((L_.getD i arr0).1)-1) (xs.map pelO) 0 0).1)+1))=i6 (((nrP (((L_.getD i arr0).1)-1) (xs.map pelO) 0 0).1)+1)] ⟨lc 3 (Blk.below k136 (bt b150 b176)) 2,wr_i64 (by have h9_:=(hc_ (by omega)).2.2; have h1_:=h9_.lo; have h2_:=h9_.le; have h3_:=h9_.hi; have h4_:=h9_.f (by omega) (by assumption); omega) (by have h9_:=(hc_ (by omega)).2.2; have h1_:=h9_.lo; have h2_:=h9_.le; have h3_:=h9_.hi; have h4_:=h9_.f (by omega) (by assumption); omega),trivial⟩ ?_
    by_cases c178:(L_.getD i arr0).2.2=((nrP (((L_.getD i arr0).1)-1) (xs.map pelO) 0 0).1)+1
    ·refine xe1 2 [(222,.eq bF)] [(0,aL A xs c),(10,i6 (((lenP xs).1)+(pq 40 cl))),(18,i6 (((((lenP xs).1)+(pq 40 cl))+(sumI insF xs))-(sumI delF xs))),(158,.slice (some ⟨w115.heap.size,0,none⟩) 2 2),(159,i6 2),(160,nv i),(223,bF)] (nF c178) ?_
     refine nl (cf (sk (rg (xr1 2 [(224,.eq (i6 ((i:Int)+1)))] [(160,i6 ((i:Int)+1))] [223] (w6 ((i:Int)+1)) ?_))))
     refine nl ?_
     have B179:Below w118.heap.size w118 w175:=(bt (bt (bg (bt HB b130) g135 (HB).size) b150) b176)
     refine⟨(i+1),by kernel_rfl,?_,?_⟩
     ·exact⟨by omega,B179⟩
     (try dsimp only); omega
    refine xe1 2 [(222,.eq bT)] [(0,aL A xs c),(10,i6 (((lenP xs).1)+(pq 40 cl))),(18,i6 (((((lenP xs).1)+(pq 40 cl))+(sumI insF xs))-(sumI delF xs))),(158,.slice (some ⟨w115.heap.size,0,none⟩) 2 2),(159,i6 2),(160,nv i),(223,bT)] (nT c178) ?_
    refine nl (ct (sg (xe0 1 [(6,bF)] ?_)))
    refine nl (X_ret (rj [bF] hR_ ?_))
    have h9_:=(hc_ (by omega)).2.2
    have h1_:=h9_.lo
    have h2_:=h9_.le
    have h3_:=h9_.hi
    have h4_:=h9_.f (by omega) c177
    exfalso; omega
   rw[show ((nrP (((L_.getD i arr0).1)-1) (xs.map pelO) 0 0).2:Bool)=false from by simpa using c177]
   refine xr0 6 [(223,bF)] [21,22,217] ?_
   refine nl (cf (sk (rg (xe1 2 [(224,.eq (i6 ((i:Int)+1)))] [(0,aL A xs c),(10,i6 (((lenP xs).1)+(pq 40 cl))),(18,i6 (((((lenP xs).1)+(pq 40 cl))+(sumI insF xs))-(sumI delF xs))),(158,.slice (some ⟨w115.heap.size,0,none⟩) 2 2),(159,i6 2),(160,i6 ((i:Int)+1))] (w6 ((i:Int)+1)) ?_))))
   refine nl ?_
   have B180:Below w118.heap.size w118 w175:=(bt (bt (bg (bt HB b130) g135 (HB).size) b150) b176)
   refine⟨(i+1),by kernel_rfl,?_,?_⟩
   ·exact⟨by omega,B180⟩
   (try dsimp only); omega
  refine xr1 1 [(161,.eq bF)] [(161,bF)] [] (dF c124) ?_
  refine nl (sq (cf (X_exit (sg (xe0 1 [(6,bT)] ?_)))))
  refine nl (X_ret (rj [bT] hR_ ?_))
  have B181:Below wB.heap.size wB wl:=(bt (bt (bt (bt B111 b113) b116) b119) HB)
  exact⟨rfl,(bt (bt (bt b2 b4) b15) B181)⟩
 refine⟨_,rfl,?_⟩
 refine xc 12 ent12 [] (bempty_any _) ?_
 rintro e wB ⟨g182,rfl,g184,k185,b186⟩; refine⟨_,rfl,?_⟩
 have hT:=hT0.below (bt (bt b2 b4) b186)
 have hE:=hE0.below (bt (bt b2 b4) b186)
 have hdE_:=deltaC_nil23 k185
 refine xr0 2 [(7,.pointer none),(8,pw g182 0)] [26,27,28] ?_
 refine nl (sg (xr0 1 [(29,aL A xs c)] [] ?_))
 refine xc 13 ent13 [aL A xs c] (r8base_any _ _ xs _ (Kd.C_below hx (bt (bt b2 b4) b186)) (by omega) hz (hT.below (Below.refl _ _))) ?_
 rintro e w187 ⟨rfl,b188⟩; refine⟨_,rfl,?_⟩
 refine xr0 1 [(9,i6 ((lenP xs).1))] [29,30] ?_
 refine nl (sq (sg (xe0 20 [(0,aL A xs c),(1,aL A1 ps c1),(2,i6 cl),(7,.pointer none),(8,pw g182 0),(9,i6 ((lenP xs).1)),(50,bT)] ?_)))
 refine nl (ct (sg (xe0 3 [(6,bT)] ?_)))
 refine nl (X_ret (rj [bT] hR_ ?_))
 exact⟨rfl,(bt (bt (bt b2 b4) b186) b188)⟩
end Go.Proofs.YtlnnjfdonilgmaaGreatDoor
