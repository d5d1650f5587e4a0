import Derived.Test.YtgphmfnkeolbcaaGreatDoorT33
import Derived.Test.YtgphmfnkeolbcaaGreatDoorGl2
import Derived.Test.YtgphmfnkeolbcaaGreatDoorT57
import Derived.Test.YtgphmfnkeolbcaaGreatDoorClp
import Derived.Test.YtgphmfnkeolbcaaGreatDoorOwq
import Derived.Test.YtgphmfnkeolbcaaGreatDoorA1
import Derived.Test.YtgphmfnkeolbcaaGreatDoorKd
import Derived.Test.YtgphmfnkeolbcaaGreatDoorT16
import Derived.Test.YtgphmfnkeolbcaaGreatDoorMixP
/- CellsOwns returns true. Conditions: sizes, the tables of utf8, the errors' variables. -/
set_option linter.unusedVariables false
set_option linter.unusedSimpArgs false
set_option maxRecDepth 100000
namespace Go.Proofs.YtgphmfnkeolbcaaGreatDoor
open Go Go.RowKit Go.Proofs.YtgphmfnkeolbcaaGreatDoorW.PrintWords RX
def ovS (i:Nat):ByteArray:=(⟨#[111,118,101,114]⟩:ByteArray)++Utf8.encode (97+Int.tmod (i:Int) 20)
theorem encSz (x:Int):(Utf8.encode x).size≤4:=by
 unfold Utf8.encode
 dsimp only
 generalize (if Utf8.valid x=true then x.toNat else Utf8.runeError)=c
 by_cases h1:c<128
 ·rw[if_pos h1]; exact Nat.le_of_ble_eq_true rfl
 rw[if_neg h1]
 by_cases h2:c<2048
 ·rw[if_pos h2]; exact Nat.le_of_ble_eq_true rfl
 rw[if_neg h2]
 by_cases h3:c<65536
 ·rw[if_pos h3]; exact Nat.le_of_ble_eq_true rfl
 rw[if_neg h3]; exact Nat.le_of_ble_eq_true rfl
theorem tmod20 (i:Nat):0≤Int.tmod (i:Int) 20∧Int.tmod (i:Int) 20<20:=⟨Int.tmod_nonneg _ (Int.natCast_nonneg i),Int.tmod_lt_of_pos _ (by decide)⟩
theorem els_at {zs:List ElA}{cs:List CellA}(h:zs.map (fun x:ElA=>x.2.1)=cs)(i:Nat):(zs.getD i el0).2.1=cs.getD i cell0:=by
 subst h
 rcases Nat.lt_or_ge i zs.length with hi|hi
 ·simp[List.getD_eq_getElem?_getD,List.getElem?_eq_getElem hi]
 simp[List.getD_eq_getElem?_getD,List.getElem?_eq_none hi]; rfl
theorem els_few {zs:List ElA}{cs:List CellA}(h:zs.map (fun x:ElA=>x.2.1)=cs)(hz:∀ i,i<cs.length→B.cellSz (cs.getD i cell0))(i:Nat):(zs.getD i el0).2.1.attrs.length≤50000000:=by
 rcases Nat.lt_or_ge i cs.length with hi|hi
 ·rw[els_at h i]; exact Nat.le_trans (hz i hi).2.2.1 (by decide)
 have hl:zs.length≤i:=by rw[←h,List.length_map]at hi; exact hi
 rw[List.getD_eq_getElem?_getD,List.getElem?_eq_none hl]
 exact Nat.zero_le _
set_option maxHeartbeats 4000000 in
theorem cellsOwns_law (A:Option Addr)(c:Nat)(cs:List CellA)(w:World)(hx:kCell.C w A cs.length cs)(hxc:cs.length≤c)(hn:cs.length≤1048576)(hz:∀ i,i<cs.length→B.cellSz (cs.getD i cell0))(hT:Tabs w)(es:List Addr)(hE:ErrsOn [1,5,6,7,8,9,10,11,12] w es):Rt 4 #[.slice A cs.length c] w bT:=by
 have hO:ErrsO w es:=hE.sub (by decide)
 have hEC:ErrsC w es:=hE.sub (by decide)
 have hEA:ErrsCA w es:=hE.sub (by decide)
 have hpl:cs.length≤9223372036854775807:=hx.2.1
 refine en Tryz.func4 rfl 205 [(0,aL A cs c)] (fun R_ hR_=>?_)
 refine sg (xe0 1 [(0,aL A cs c)] ?_)
 refine nl (sg (xc 20 ent20 [] (lives9_any _ (hT.below (Below.refl _ _)) es (hO.below (Below.refl _ _))) ?_))
 rintro e w1 ⟨rfl,b2⟩; refine⟨_,rfl,?_⟩
 refine xr0 1 [(3,bT)] [23] ?_
 refine nl (sq (sg (xr0 4 [(26,bF),(27,aL A cs c)] [] ?_)))
 refine xc 21 ent21 [aL A cs c] (large9_any _ _ cs _ (Kd.C_below hx b2) hn hz) ?_
 rintro e w3 ⟨rfl,b4⟩; refine⟨_,rfl,?_⟩
 refine xr0 1 [(29,.bool (decide (20000<lgC cs)))] [26,27,28] ?_
 refine nl ?_
 by_cases c5:decide (20000<lgC cs)=true
 ·rw[show (decide (20000<lgC cs):Bool)=true from by simpa using c5]
  refine ct (sg (xe0 2 [(2,bT)] ?_))
  refine nl (X_ret (rj [bT] hR_ ?_))
  exact⟨rfl,(bt b2 b4)⟩
 have hlg:=of_decide_eq_false (Bool.eq_false_iff.2 c5)
 have hlg1:=lgC_len cs
 rw[show (decide (20000<lgC cs):Bool)=false from by simpa using c5]
 refine cf (sk (sg (xr0 1 [(32,aL A cs c)] [3,29] ?_)))
 refine xc 22 ent22 [aL A cs c] (c9of_any _ _ cs _ (Kd.C_below hx (bt b2 b4)) hxc (by omega) hz (hT.below (bt b2 b4)) es (hO.below (bt b2 b4))) ?_
 rintro e w_6 ⟨b7,⟨hb0_8,d,A9,c10,rfl,d11⟩|⟨hb0_8,rfl⟩⟩
 ·refine⟨_,rfl,?_⟩
  obtain⟨hcb_d,hcn_d,hcz_d⟩:=cell_facts hb0_8 (by omega) hz
  have hD_d:=d11.c
  obtain⟨hdoc_,hcell_⟩:=cells_doc hb0_8 (by omega)
  have hfew_:(cellsAll (B.can (cs.map B.opC))).length≤100000000:=by rw[hcell_]; omega
  refine xr0 7 [(4,pw d 0),(6,.nilIface)] [32,33] ?_
  refine nl (sq (sg (xe0 5 [(0,aL A cs c),(4,pw d 0),(39,bF),(41,i6 (cs.length:Int))] ?_)))
  by_cases c12:(cs.length:Int)=0
  ·refine xr1 2 [(42,.eq bT)] [(43,bT)] [39,41] (bE c12) ?_
   refine nl (ct (sg (xe0 1 [(2,bT)] ?_)))
   refine nl (X_ret (rj [bT] hR_ ?_))
   exact⟨rfl,(bt (bt b2 b4) b7)⟩
  refine xr1 2 [(42,.eq bF)] [(43,bF)] [39,41] (bN c12) ?_
  refine nl (cf (sk (sg (xr0 1 [(45,aL A cs c)] [43] ?_))))
  refine xc 23 ent23 [aL A cs c] (r9of_any _ _ cs w _ (bt (bt b2 b4) b7) hx (by omega) hz (hT.below (bt (bt b2 b4) b7))) ?_
  rintro e w13 ⟨b14,⟨hb0_15,A16,c17,rfl,m18⟩|⟨hb0_15,rfl⟩⟩
  ·refine⟨_,rfl,?_⟩
   refine xr0 7 [(7,aL A16 (B.can (cs.map B.opC)) c17),(9,i6 0)] [45,46] ?_
   refine nl (sg (xr0 1 [(51,pw d 0)] [] ?_))
   refine xc 24 ent24 [pw d 0] (clistE_any d (B.can (cs.map B.opC)) _ (hD_d.below b14) hcb_d hcn_d hcz_d (fun h_=>doc_ref hcb_d h_) hfew_ (hT.below (bt (bt (bt b2 b4) b7) b14)) es (hEC.below (bt (bt (bt b2 b4) b7) b14))) ?_
   rintro e w26 ⟨A19,c20,zs21,ez22,ek23,rfl,l24,r25,b27⟩; refine⟨_,rfl,?_⟩
   rw[if_pos hdoc_,hcell_]at ez22; rw[if_pos hdoc_,errV_zero]
   rw[hcell_]at ek23
   have hzl_:zs21.length=cs.length:=by rw[←ez22,List.length_map]
   have hap_:Apart zs21:=ek23.2.2
   refine xr0 5 [(6,.nilIface),(10,aL A19 zs21 c20)] [51,52] ?_
   refine nl (sg (xe0 1 [(0,aL A cs c),(4,pw d 0),(6,.nilIface),(7,aL A16 (B.can (cs.map B.opC)) c17),(9,i6 0),(10,aL A19 zs21 c20),(56,pw d 0)] ?_))
   have B35:Below w.heap.size w w26:=(bt (bt (bt (bt b2 b4) b7) b14) b27)
   refine xc 24 ent24 [pw d 0] (clist_any d (B.can (cs.map B.opC)) _ (hD_d.below (bt b14 b27)) hcb_d hcn_d hcz_d (fun h_=>doc_ref hcb_d h_) hfew_ (hT.below B35) es (hEC.below B35)) ?_
   rintro e w36 ⟨A28,c29,zs30,ez31,rfl,l33,r34,b37⟩; refine⟨_,rfl,?_⟩
   rw[if_pos hdoc_,hcell_]at ez31; rw[if_pos hdoc_,errV_zero]; rw[ez31]at l33 r34 ⊢
   refine xr0 5 [(11,aL A28 cs c29),(12,.nilIface)] [56,57] ?_
   refine nl (sg (xr0 1 [(61,pw d 0)] [] ?_))
   refine xc 25 ent25 [pw d 0,i6 0] (cat_any d (B.can (cs.map B.opC)) 0 _ (hD_d.below (bt (bt b14 b27) b37)) hcb_d hcn_d hcz_d (fun h_=>doc_ref hcb_d h_) hfew_ (hT.below (bt B35 b37)) es (hEA.below (bt B35 b37))) ?_
   rintro e w42 ⟨A38,c39,rfl,l40,r41,b43⟩; refine⟨_,rfl,?_⟩
   have hat_:atP (B.can (cs.map B.opC)) 0=((cs.getD 0 cell0),0):=by unfold atP; rw[if_pos hdoc_,if_neg (by rw[hcell_]; omega),hcell_]; rfl
   rw[hat_]at l40 r41 ⊢; rw[errV_zero]
   replace l40:(cs.getD 0 cell0).attrs.length≤c39:=l40
   replace r41:kAttr.R 57 w42 w36.heap.size (OkFrom w36.heap.size) (aL A38 (cs.getD 0 cell0).attrs c39) (cs.getD 0 cell0).attrs:=r41
   refine xw 4 [] [(13,pw w42.heap.size 0),(63,.agg (c6A (cs.getD 0 cell0) (aL A38 (cs.getD 0 cell0).attrs c39))),(64,.nilIface)] [61,62] (w42.alloc (.cells #[.int .i32 0,s0,i6 0,i6 0,s0,.slice none 0 0] 51)) [] trivial ?_
   obtain⟨w44,w48,b45,k46,z47⟩:=new_world w42 #[.int .i32 0,s0,i6 0,i6 0,s0,.slice none 0 0] 51
   rw[w48]
   refine xst (.agg (c6A (cs.getD 0 cell0) (aL A38 (cs.getD 0 cell0).attrs c39))) k46 0 (c6A (cs.getD 0 cell0) (aL A38 (cs.getD 0 cell0).attrs c39)) (fun w49 g50 k51 z52=>?_)
   refine xr0 1 [(14,.nilIface)] [63,64] ?_
   refine nl (sg (xr0 1 [(66,pw d 0)] [] ?_))
   have B53:Below w_6.heap.size w_6 w49:=(bg (bt (bt (bt (bt b14 b27) b37) b43) b45) g50 ((bt (bt (bt b14 b27) b37) b43)).size)
   have B58:Below w.heap.size w w49:=(bg (bt (bt (bt B35 b37) b43) b45) g50 ((bt (bt B35 b37) b43)).size)
   refine xc 25 ent25 [pw d 0,i6 0] (cat_any d (B.can (cs.map B.opC)) 0 _ (hD_d.below B53) hcb_d hcn_d hcz_d (fun h_=>doc_ref hcb_d h_) hfew_ (hT.below B58) es (hEA.below B58)) ?_
   rintro e w59 ⟨A54,c55,rfl,l56,r57,b60⟩; refine⟨_,rfl,?_⟩
   have hat_:atP (B.can (cs.map B.opC)) 0=((cs.getD 0 cell0),0):=by unfold atP; rw[if_pos hdoc_,if_neg (by rw[hcell_]; omega),hcell_]; rfl
   rw[hat_]at l56 r57 ⊢; rw[errV_zero]
   replace l56:(cs.getD 0 cell0).attrs.length≤c55:=l56
   replace r57:kAttr.R 57 w59 w49.heap.size (OkFrom w49.heap.size) (aL A54 (cs.getD 0 cell0).attrs c55) (cs.getD 0 cell0).attrs:=r57
   refine xwe 4 [] [(0,aL A cs c),(4,pw d 0),(6,.nilIface),(7,aL A16 (B.can (cs.map B.opC)) c17),(9,i6 0),(10,aL A19 zs21 c20),(11,aL A28 cs c29),(12,.nilIface),(13,pw w42.heap.size 0),(14,.nilIface),(15,pw w59.heap.size 0),(68,.agg (c6A (cs.getD 0 cell0) (aL A54 (cs.getD 0 cell0).attrs c55))),(69,.nilIface)] (w59.alloc (.cells #[.int .i32 0,s0,i6 0,i6 0,s0,.slice none 0 0] 51)) [] trivial ?_
   obtain⟨w61,w65,b62,k63,z64⟩:=new_world w59 #[.int .i32 0,s0,i6 0,i6 0,s0,.slice none 0 0] 51
   rw[w65]
   refine xst (.agg (c6A (cs.getD 0 cell0) (aL A54 (cs.getD 0 cell0).attrs c55))) k63 0 (c6A (cs.getD 0 cell0) (aL A54 (cs.getD 0 cell0).attrs c55)) (fun w66 g67 k68 z69=>?_)
   have B70:Below w42.heap.size w42 w59:=(bt (bg b45 g50 (Nat.le_refl _)) b60)
   have B71:Below w36.heap.size w36 w59:=(bt (bg (bt b43 b45) g50 (b43).size) b60)
   refine xr0 1 [(16,.nilIface)] [68,69] ?_
   refine nl (sg (xr0 3 [(71,pw d 0),(73,i6 (cs.length:Int))] [] ?_))
   have B72:Below w_6.heap.size w_6 w66:=(bg (bt (bt B53 b60) b62) g67 ((bt B53 b60)).size)
   have B79:Below w.heap.size w w66:=(bg (bt (bt B58 b60) b62) g67 ((bt B58 b60)).size)
   refine xc 26 ent26 [pw d 0,i6 (cs.length:Int)] (told9l_any d _ (B.can (cs.map B.opC)) (B.can (cs.map B.opC)) _ (hD_d.below B72) hcb_d hcn_d hcz_d (if_pos hdoc_).symm (doc_ref hcb_d hdoc_) hfew_ (by rw[hcell_]; exact Int.le_refl _) (hT.below B79) es (hEC.below B79)) ?_
   rintro e w80 ⟨A73,c74,zs75,ez76,rfl,l77,r78,b81⟩; refine⟨_,rfl,?_⟩
   rw[hcell_]at ez76; rw[ez76]at l77 r78 ⊢
   refine xr0 5 [(3,bT),(17,aL A73 cs c74)] [71,73,74] ?_
   refine nl (sq (sg (xr0 22 [(98,bF)] [3,6,9,12,14,16] ?_)))
   refine nl (cf (sk (sq (sg (xr0 3 [(100,i6 (zs21.length:Int)),(101,i6 0)] [98] ?_)))))
   refine nl (X_block ?_)
   have q82:w13.heap.size≤w26.heap.size:=(b27).size
   have q83:w26.heap.size≤w26.heap.size:=(Nat.le_refl _)
   have q84:w26.heap.size≤w36.heap.size:=(b37).size
   have q85:w36.heap.size≤w36.heap.size:=(Nat.le_refl _)
   have q86:w36.heap.size≤w42.heap.size:=(b43).size
   have q87:w42.heap.size≤w49.heap.size:=((bg b45 g50 (Nat.le_refl _))).size
   have q88:w49.heap.size≤w59.heap.size:=(b60).size
   have q89:w59.heap.size≤w66.heap.size:=((bg b62 g67 (Nat.le_refl _))).size
   have q90:w66.heap.size≤w80.heap.size:=(b81).size
   have q91:w80.heap.size≤w80.heap.size:=(Nat.le_refl _)
   have hBw_:Below w.heap.size w w80:=(bt B79 b81)
   have hq0_:w.heap.size≤w13.heap.size:=((bt (bt (bt b2 b4) b7) b14)).size
   have B93:Below w36.heap.size w36 w80:=(bt (bg (bt B71 b62) g67 (B71).size) b81)
   have kp92:=(Kd.R_below (Kd.R_mono (ok':=(fun g_=>w26.heap.size≤g_∧g_<w36.heap.size)) (Kd.R_bound r34) (fun k_ hk_=>⟨hk_.2.1,hk_.2.2.1⟩)) B93)
   have B95:Below w59.heap.size w59 w80:=(bt (bg b62 g67 (Nat.le_refl _)) b81)
   have kp94:=(Kd.R_below (Kd.R_mono (ok':=(fun g_=>w49.heap.size≤g_∧g_<w59.heap.size)) (Kd.R_bound r57) (fun k_ hk_=>⟨hk_.2.1,hk_.2.2.1⟩)) B95)
   have B97:Below w42.heap.size w42 w80:=(bt (bg (bt B70 b62) g67 (B70).size) b81)
   have kp96:=(LiesO.below B97 (LiesO.of_R (d:=kAttr) (ok':=(fun g_=>w36.heap.size≤g_∧g_<w42.heap.size)) r41 (fun g_ h1_ _ h3_=>⟨h1_,h3_⟩)))
   have kp98:=(shapeP_cells (ok:=(fun g_=>w66.heap.size≤g_∧g_<w80.heap.size)) r78 (fun j_ h_=>by have h2_:=(hz j_ h_).2.2.1; omega) (fun g_ h1_ h2_=>⟨h1_,h2_⟩))
   have B100:Below w49.heap.size w49 w80:=(bt (bg (bt b60 b62) g67 (b60).size) b81)
   have kp99:=(Blk.below k51 B100)
   have kp101:=(Blk.below k68 b81)
   have hsq_:ShapeQ 51 57 (fun g_=>w13.heap.size≤g_∧g_<w26.heap.size) w26 A19 c20 zs21:=shapeQ_els r25 (fun g_ h1_ h2_=>⟨h1_,h2_⟩)
   have B102:Below w26.heap.size w26 w59:=(bt (bg (bt (bt b37 b43) b45) g50 ((bt b37 b43)).size) b60)
   have B103:Below w26.heap.size w26 w80:=(bt (bg (bt (bt (bg (bt (bt b37 b43) b45) g50 ((bt b37 b43)).size) b60) b62) g67 (B102).size) b81)
   have hmA_:=els_few ez22 hz
   refine X_loop (ι:=Nat) (fun i=>[(0,aL A cs c),(4,pw d 0),(7,aL A16 (B.can (cs.map B.opC)) c17),(10,aL A19 zs21 c20),(11,aL A28 cs c29),(13,pw w42.heap.size 0),(15,pw w59.heap.size 0),(17,aL A73 cs c74),(100,i6 (zs21.length:Int)),(101,i6 (i:Int))]) (fun i wz=>i≤zs21.length∧ShapeQ 51 57 (fun g_=>w13.heap.size≤g_∧g_<w26.heap.size) wz A19 c20 zs21∧SpoilO (· =57) (fun g_=>(w13.heap.size≤g_∧g_<w26.heap.size)∨w80.heap.size≤g_) w80 wz∧KeyI zs21 ovS i 0 wz) (fun i=>zs21.length-i) 0 ⟨Nat.zero_le _,(ShapeQ.below B103 hsq_),SpoilO.refl _ _ _,KeyI.zero _⟩ (by kernel_rfl) ?_
   rintro i wz ⟨hi,hSh1,hS1,hK1⟩
   have hBz_:Below w.heap.size w wz:=hBw_.trans (SpoilO.lo hS1 (hBw_).size (fun g_ h1_ h2_=>by (try dsimp only at h2_); omega))
   have htm_:=tmod20 i
   have hm_:=hmA_ i
   have hel_:(zs21.getD i el0).2.1.attrs.length=(cs.getD i cell0).attrs.length:=by rw[els_at ez22 i]
   have hen_:=encSz (97+Int.tmod (i:Int) 20)
   have hli_:(⟨#[111,118,101,114]⟩:ByteArray).size=4:=rfl
   refine sq (X_region ?_)
   by_cases c104:(i:Int)<(zs21.length:Int)
   ·refine xr1 1 [(102,.eq bT)] [(102,bT)] [] (dT c104) ?_
    refine nl (sq (ct (sk (sq (bk (sg (xr0 2 [(18,nv i)] [102] ?_)))))))
    refine nl (sq (sg (xr0 2 [(104,aL A19 zs21 c20),(105,nv i)] [] ?_)))
    obtain⟨ad105,a108,a109,a110,a111,a112,a106,c107,L113⟩:=(hSh1).r i (by omega)
    replace c107:CellsAt wz (ad105.add ((i:Int).toNat*6)) [a108,a109,a110,a111,a112,aL ((zs21.getD i el0).2.2.1) (zs21.getD i el0).2.1.attrs ((zs21.getD i el0).2.2.2)]:=c107
    refine xr 5 [(106,.idx ad105),(108,.load (aL ((zs21.getD i el0).2.2.1) (zs21.getD i el0).2.1.attrs ((zs21.getD i el0).2.2.2)))] [(109,i6 ((zs21.getD i el0).2.1.attrs.length:Int)),(110,i6 0)] [104,105] [A19=some ad105,(0:Int)≤(i:Int),(i:Int)<(zs21.length:Int),la 49 ((ad105.add ((i:Int).toNat*6)).add 5) (aL ((zs21.getD i el0).2.2.1) (zs21.getD i el0).2.1.attrs ((zs21.getD i el0).2.2.2)) wz] ⟨a106,(by omega),(by omega),loads1 rfl (elem_cell c107 5 _ rfl),trivial⟩ ?_
    refine nl (bk (X_loop (ι:=Nat) (fun k=>[(0,aL A cs c),(4,pw d 0),(7,aL A16 (B.can (cs.map B.opC)) c17),(10,aL A19 zs21 c20),(11,aL A28 cs c29),(13,pw w42.heap.size 0),(15,pw w59.heap.size 0),(17,aL A73 cs c74),(18,i6 (i:Int)),(100,i6 (zs21.length:Int)),(101,i6 (i:Int)),(109,i6 ((zs21.getD i el0).2.1.attrs.length:Int)),(110,i6 (k:Int))]) (fun k wj=>k≤(zs21.getD i el0).2.1.attrs.length∧ShapeQ 51 57 (fun g_=>w13.heap.size≤g_∧g_<w26.heap.size) wj A19 c20 zs21∧SpoilO (· =57) (fun g_=>(w13.heap.size≤g_∧g_<w26.heap.size)∨w80.heap.size≤g_) w80 wj∧KeyI zs21 ovS i k wj) (fun k=>(zs21.getD i el0).2.1.attrs.length-k) 0 ⟨Nat.zero_le _,hSh1,hS1,hK1⟩ (by kernel_rfl) ?_))
    rintro k wj ⟨hk,hSh2,hS2,hK2⟩
    have hBj_:Below w.heap.size w wj:=hBw_.trans (SpoilO.lo hS2 (hBw_).size (fun g_ h1_ h2_=>by (try dsimp only at h2_); omega))
    refine sq (X_region ?_)
    by_cases c114:(k:Int)<((zs21.getD i el0).2.1.attrs.length:Int)
    ·refine xr1 1 [(111,.eq bT)] [(111,bT)] [] (dT c114) ?_
     refine nl (sq (ct (sk (sq (bk (sg (xr0 2 [(19,nv k)] [111] ?_)))))))
     refine nl (rg (xr0 2 [(113,aL A19 zs21 c20),(114,nv i)] [] ?_))
     obtain⟨ad115,a118,a119,a120,a121,a122,a116,c117,L123⟩:=(hSh2).r i (by omega)
     replace c117:CellsAt wj (ad115.add ((i:Int).toNat*6)) [a118,a119,a120,a121,a122,aL ((zs21.getD i el0).2.2.1) (zs21.getD i el0).2.1.attrs ((zs21.getD i el0).2.2.2)]:=c117
     refine xr 10 [(115,.idx ad115),(117,.load (aL ((zs21.getD i el0).2.2.1) (zs21.getD i el0).2.1.attrs ((zs21.getD i el0).2.2.2))),(121,.eq (i6 (97+(Int.tmod (i:Int) 20)))),(122,.eq (.int .i32 (97+(Int.tmod (i:Int) 20)))),(123,.as (sT (Utf8.encode (97+(Int.tmod (i:Int) 20))))),(124,.as (sT ((⟨#[111,118,101,114]⟩:ByteArray)++(Utf8.encode (97+(Int.tmod (i:Int) 20))))))] [(117,aL ((zs21.getD i el0).2.2.1) (zs21.getD i el0).2.1.attrs ((zs21.getD i el0).2.2.2)),(118,nv k),(124,sT ((⟨#[111,118,101,114]⟩:ByteArray)++(Utf8.encode (97+(Int.tmod (i:Int) 20)))))] [19,113,114] [A19=some ad115,(0:Int)≤(i:Int),(i:Int)<(zs21.length:Int),la 49 ((ad115.add ((i:Int).toNat*6)).add 5) (aL ((zs21.getD i el0).2.2.1) (zs21.getD i el0).2.1.attrs ((zs21.getD i el0).2.2.2)) wj,_,Value.int .i32 (IntKind.i32.wrap (97+(Int.tmod (i:Int) 20)))=Value.int .i32 (97+(Int.tmod (i:Int) 20)),RunsAs Tryz.prog [(122,.int .i32 (97+(Int.tmod (i:Int) 20)))] (Go.Op.convert 21 9 (Go.Operand.tmp 122)) 9 (sT (Utf8.encode (97+(Int.tmod (i:Int) 20)))) wj,RunsAs Tryz.prog [(123,sT (Utf8.encode (97+(Int.tmod (i:Int) 20))))] (Go.Op.binOp Go.BinOp.add 9 (Go.Operand.const (Go.Value.string { data:=#[111,118,101,114] })) (Go.Operand.tmp 123) 9) 9 (sT ((⟨#[111,118,101,114]⟩:ByteArray)++(Utf8.encode (97+(Int.tmod (i:Int) 20))))) wj] ⟨a116,(by omega),(by omega),loads1 rfl (elem_cell c117 5 _ rfl),w6 (97+(Int.tmod (i:Int) 20)),wr_i32 (by omega) (by omega),runs_conv rfl (run_convert_int_string _ _ _ _ _ (by kernel_rfl) Tryz.underlying9),runs_bin rfl rfl rfl (run_sadd (by omega)),trivial⟩ ?_
     obtain⟨g127,cs128,a125,g129,k130,s131⟩:=LiesO.at L123 (by omega)
     have B133:=a125
     obtain⟨ad124,had132⟩:∃ ad_,ad_=(⟨g127,0,none⟩:Addr):=⟨_,rfl⟩
     rw[←had132]at a125
     have c126:True:=trivial
     refine xr 2 [(125,.idx ad124)] [(126,.pointer (some (ad124.add ((k:Int).toNat*4))))] [117,118] [((zs21.getD i el0).2.2.1)=some ad124,(0:Int)≤(k:Int),(k:Int)<((zs21.getD i el0).2.1.attrs.length:Int)] ⟨a125,(by omega),(by omega),trivial⟩ ?_
     refine XL_putK (n:=(k:Int).toNat*4) (s:=((⟨#[111,118,101,114]⟩:ByteArray)++(Utf8.encode (97+(Int.tmod (i:Int) 20))))) rfl rfl rfl (addK had132 _) (by kernel_rfl) k130 (by kernel_rfl) (by omega) (fun w134 g135 b136=>?_)
     obtain⟨w137,hSh138,K139⟩:=ShapeQ.put (ok:=(fun g_=>w13.heap.size≤g_∧g_<w26.heap.size)) (f:=ovS) (k:=k) hSh2 (by decide) hap_ hK2 (by omega) B133 g129 k130 (by omega) g135 b136
     have S140:=SpoilO.trans hS2 (SpoilO.imp (SpoilO.of_wrote (es:=(· =57)) w137 rfl) (fun _ h_=>h_) (fun _ _ h_=>.inl h_))
     have hBz141:Below w.heap.size w w134:=hBw_.trans (SpoilO.lo S140 (hBw_).size (fun g_ h1_ h2_=>by (try dsimp only at h2_); omega))
     refine nl (rg (xe1 2 [(127,.eq (i6 ((k:Int)+1)))] [(0,aL A cs c),(4,pw d 0),(7,aL A16 (B.can (cs.map B.opC)) c17),(10,aL A19 zs21 c20),(11,aL A28 cs c29),(13,pw w42.heap.size 0),(15,pw w59.heap.size 0),(17,aL A73 cs c74),(18,nv i),(100,i6 (zs21.length:Int)),(101,nv i),(109,i6 ((zs21.getD i el0).2.1.attrs.length:Int)),(110,i6 ((k:Int)+1))] (w6 ((k:Int)+1)) ?_))
     refine nl ?_
     refine⟨(k+1),by kernel_rfl,?_,?_⟩
     ·exact⟨by omega,hSh138,S140,K139⟩
     (try dsimp only); omega
    refine xr1 1 [(111,.eq bF)] [(111,bF)] [] (dF c114) ?_
    refine nl (sq (cf (X_exit (sg (xr0 2 [(128,aL A19 zs21 c20),(129,nv i)] [109,110,111] ?_)))))
    obtain⟨ad142,a145,a146,a147,a148,a149,a143,c144,L150⟩:=(hSh2).r i (by omega)
    replace c144:CellsAt wj (ad142.add ((i:Int).toNat*6)) [a145,a146,a147,a148,a149,aL ((zs21.getD i el0).2.2.1) (zs21.getD i el0).2.1.attrs ((zs21.getD i el0).2.2.2)]:=c144
    refine xw 5 [(130,.idx ad142),(132,.load (aL ((zs21.getD i el0).2.2.1) (zs21.getD i el0).2.1.attrs ((zs21.getD i el0).2.2.2)))] [(132,aL ((zs21.getD i el0).2.2.1) (zs21.getD i el0).2.1.attrs ((zs21.getD i el0).2.2.2)),(134,.slice (some ⟨wj.heap.size,0,none⟩) 1 1)] [128,129] (wj.alloc (.cells #[sT (⟨#[109,111,114,101]⟩:ByteArray),i6 0,i6 0,s0] 57)) [A19=some ad142,(0:Int)≤(i:Int),(i:Int)<(zs21.length:Int),la 49 ((ad142.add ((i:Int).toNat*6)).add 5) (aL ((zs21.getD i el0).2.2.1) (zs21.getD i el0).2.1.attrs ((zs21.getD i el0).2.2.2)) wj] ⟨a143,(by omega),(by omega),loads1 rfl (elem_cell c144 5 _ rfl),trivial⟩ ?_
    obtain⟨w151,w155,b152,k153,z154⟩:=new_world wj #[sT (⟨#[109,111,114,101]⟩:ByteArray),i6 0,i6 0,s0] 57
    rw[w155]
    rw[←w155]
    refine XL_appendLiesK (ok:=(fun g_=>(w13.heap.size≤g_∧g_<w26.heap.size)∨w80.heap.size≤g_)) rfl rfl rfl 57 (.agg #[s0,i6 0,i6 0,s0]) 4 48 Tryz.underlying49 info57 rfl (by decide) [sT (⟨#[109,111,114,101]⟩:ByteArray),i6 0,i6 0,s0] (by kernel_rfl) (by kernel_rfl) (by kernel_rfl) (fun g_ h_=>.inr (Nat.le_trans (hS2).size h_)) (LiesO.imp L150 (fun g_ h_=>.inl h_)) (by omega) (by omega) (fun A156 c157 w158 w159 r160=>?_)
    obtain⟨hSh161,K162⟩:=ShapeQ.app (ok:=(fun g_=>w13.heap.size≤g_∧g_<w26.heap.size)) hSh2 (by decide) hap_ (by have e_:k=(zs21.getD i el0).2.1.attrs.length:=(by omega); rw[←e_]; exact hK2) (by omega) w159 r160
    have S163:=SpoilO.trans hS2 (SpoilO.of_wrote (es:=(· =57)) w159 rfl)
    have hBz164:Below w.heap.size w w158:=hBw_.trans (SpoilO.lo S163 (hBw_).size (fun g_ h1_ h2_=>by (try dsimp only at h2_); omega))
    refine xr0 1 [(20,.slice A156 ((zs21.getD i el0).2.1.attrs.length+1) c157)] [132,134,135] ?_
    refine nl (sg (xr0 4 [(137,i6 (((zs21.getD i el0).2.1.attrs.length+1):Int)),(138,aL A cs c),(139,nv i)] [18,20] ?_))
    obtain⟨ad165,B168,c169,a166,c167,l170,C171⟩:=Kd.atCell (Kd.C_below hx hBz164) (i:=(i:Int)) (by omega) (by omega)
    replace c167:CellsAt w158 (ad165.add ((i:Int).toNat*6)) (c6L (cs.getD i cell0) (aL B168 (cs.getD i cell0).attrs c169)):=c167
    replace l170:(cs.getD i cell0).attrs.length≤c169:=l170
    replace C171:kAttr.C w158 B168 ((cs.getD i cell0).attrs.length) (cs.getD i cell0).attrs:=C171
    refine xe 5 [(140,.idx ad165),(142,.load (aL B168 (cs.getD i cell0).attrs c169)),(144,.eq (i6 (((cs.getD i cell0).attrs.length:Int)+1)))] [(0,aL A cs c),(4,pw d 0),(7,aL A16 (B.can (cs.map B.opC)) c17),(10,aL A19 zs21 c20),(11,aL A28 cs c29),(13,pw w42.heap.size 0),(15,pw w59.heap.size 0),(17,aL A73 cs c74),(100,i6 (zs21.length:Int)),(101,nv i),(137,i6 (((zs21.getD i el0).2.1.attrs.length+1):Int)),(144,i6 (((cs.getD i cell0).attrs.length:Int)+1))] [A=some ad165,(0:Int)≤(i:Int),(i:Int)<(cs.length:Int),la 49 ((ad165.add ((i:Int).toNat*6)).add 5) (aL B168 (cs.getD i cell0).attrs c169) w158,_] ⟨a166,(by omega),(by omega),loads1 rfl (elem_cell c167 5 _ rfl),w6 (((cs.getD i cell0).attrs.length:Int)+1),trivial⟩ ?_
    by_cases c172:(((zs21.getD i el0).2.1.attrs.length+1):Int)=((cs.getD i cell0).attrs.length:Int)+1
    ·refine xr1 1 [(145,.eq bF)] [(145,bF)] [137,144] (nF c172) ?_
     refine nl (cf (sk (rg (xr1 2 [(146,.eq (i6 ((i:Int)+1)))] [(101,i6 ((i:Int)+1))] [145] (w6 ((i:Int)+1)) ?_))))
     refine nl ?_
     refine⟨(i+1),by kernel_rfl,?_,?_⟩
     ·exact⟨by omega,hSh161,S163,K162⟩
     (try dsimp only); omega
    refine xr1 1 [(145,.eq bT)] [(145,bT)] [137,144] (nT c172) ?_
    refine nl (ct (sg (xe0 1 [(2,bF)] ?_)))
    refine nl (X_ret (rj [bF] hR_ ?_))
    exfalso; omega
   refine xr1 1 [(102,.eq bF)] [(102,bF)] [] (dF c104) ?_
   refine nl (sq (cf (X_exit (sq (sq (X_region ?_))))))
   have hKA_:KeyI zs21 ovS zs21.length 0 wz:=by have e_:i=zs21.length:=(by omega); rw[←e_]; exact hK1
   have hqz_:w80.heap.size≤wz.heap.size:=hS1.size
   have kp175:=Kd.R_far kp92 hS1 (fun g_ h1_ h2_=>by (try dsimp only at h1_ h2_); omega)
   have kp176:=Kd.R_far kp94 hS1 (fun g_ h1_ h2_=>by (try dsimp only at h1_ h2_); omega)
   have kp177:=LiesO.spoil kp96 hS1
   have kp178:=ShapeP.far kp98 hS1 (fun g_ h1_ h2_=>by (try dsimp only at h1_ h2_); omega)
   have kp179:=SpoilO.far hS1 kp99 (fun h2_=>by (try dsimp only at h2_); omega)
   have kp180:=SpoilO.far hS1 kp101 (fun h2_=>by (try dsimp only at h2_); omega)
   have B181:Below w13.heap.size w13 w59:=(bt (bg (bt (bt (bt b27 b37) b43) b45) g50 ((bt (bt b27 b37) b43)).size) b60)
   have B182:Below w13.heap.size w13 w80:=(bt (bg (bt (bt (bg (bt (bt (bt b27 b37) b43) b45) g50 ((bt (bt b27 b37) b43)).size) b60) b62) g67 (B181).size) b81)
   have hBa173:Below w13.heap.size w13 wz:=(B182).trans (SpoilO.lo hS1 ((B182).size) (fun g_ h1_ h2_=>by (try dsimp only at h2_); omega))
   refine xr0 3 [(148,i6 (zs21.length:Int)),(149,i6 0)] [100,101,102] ?_
   refine nl (bk (X_loop (ι:=Nat) (fun p=>[(0,aL A cs c),(4,pw d 0),(7,aL A16 (B.can (cs.map B.opC)) c17),(10,aL A19 zs21 c20),(11,aL A28 cs c29),(13,pw w42.heap.size 0),(15,pw w59.heap.size 0),(17,aL A73 cs c74),(148,i6 (zs21.length:Int)),(149,i6 (p:Int))]) (fun p wv=>p≤zs21.length∧Below wz.heap.size wz wv) (fun p=>zs21.length-p) 0 ⟨Nat.zero_le _,Below.refl _ _⟩ (by kernel_rfl) ?_))
   rintro p wv ⟨hp,HBv⟩
   have htm2_:=tmod20 p
   have hm2_:=hmA_ p
   have hen2_:=encSz (97+Int.tmod (p:Int) 20)
   have hli2_:(⟨#[111,118,101,114]⟩:ByteArray).size=4:=rfl
   refine sq (X_region ?_)
   by_cases c183:(p:Int)<(zs21.length:Int)
   ·refine xr1 1 [(150,.eq bT)] [(150,bT)] [] (dT c183) ?_
    refine nl (sq (ct (sk (sq (bk (sg (xr0 2 [(21,nv p)] [150] ?_)))))))
    refine nl (sg (xr0 2 [(152,aL A19 zs21 c20),(153,nv p)] [] ?_))
    obtain⟨ad184,a187,a188,a189,a190,a191,a185,c186,L192⟩:=((ShapeQ.below HBv hSh1)).r p (by omega)
    replace c186:CellsAt wv (ad184.add ((p:Int).toNat*6)) [a187,a188,a189,a190,a191,aL ((zs21.getD p el0).2.2.1) (zs21.getD p el0).2.1.attrs ((zs21.getD p el0).2.2.2)]:=c186
    refine xr 5 [(154,.idx ad184),(156,.load (aL ((zs21.getD p el0).2.2.1) (zs21.getD p el0).2.1.attrs ((zs21.getD p el0).2.2.2)))] [(157,i6 ((zs21.getD p el0).2.1.attrs.length:Int)),(158,i6 0)] [152,153] [A19=some ad184,(0:Int)≤(p:Int),(p:Int)<(zs21.length:Int),la 49 ((ad184.add ((p:Int).toNat*6)).add 5) (aL ((zs21.getD p el0).2.2.1) (zs21.getD p el0).2.1.attrs ((zs21.getD p el0).2.2.2)) wv] ⟨a185,(by omega),(by omega),loads1 rfl (elem_cell c186 5 _ rfl),trivial⟩ ?_
    refine nl (bk (X_loop (ι:=Nat) (fun q=>[(0,aL A cs c),(4,pw d 0),(7,aL A16 (B.can (cs.map B.opC)) c17),(10,aL A19 zs21 c20),(11,aL A28 cs c29),(13,pw w42.heap.size 0),(15,pw w59.heap.size 0),(17,aL A73 cs c74),(21,i6 (p:Int)),(148,i6 (zs21.length:Int)),(149,i6 (p:Int)),(157,i6 ((zs21.getD p el0).2.1.attrs.length:Int)),(158,i6 (q:Int))]) (fun q wu=>q≤(zs21.getD p el0).2.1.attrs.length∧Below wv.heap.size wv wu) (fun q=>(zs21.getD p el0).2.1.attrs.length-q) 0 ⟨Nat.zero_le _,Below.refl _ _⟩ (by kernel_rfl) ?_))
    rintro q wu ⟨hq,HBu⟩
    refine sq (X_region ?_)
    by_cases c193:(q:Int)<((zs21.getD p el0).2.1.attrs.length:Int)
    ·refine xr1 1 [(159,.eq bT)] [(159,bT)] [] (dT c193) ?_
     refine nl (sq (ct (sk (sq (bk (sg (xr0 2 [(22,nv q)] [159] ?_)))))))
     refine nl (sg (xr0 2 [(161,aL A19 zs21 c20),(162,nv p)] [] ?_))
     obtain⟨ad194,a197,a198,a199,a200,a201,a195,c196,L202⟩:=((ShapeQ.below (bt HBv HBu) hSh1)).r p (by omega)
     replace c196:CellsAt wu (ad194.add ((p:Int).toNat*6)) [a197,a198,a199,a200,a201,aL ((zs21.getD p el0).2.2.1) (zs21.getD p el0).2.1.attrs ((zs21.getD p el0).2.2.2)]:=c196
     refine xr 4 [(163,.idx ad194),(165,.load (aL ((zs21.getD p el0).2.2.1) (zs21.getD p el0).2.1.attrs ((zs21.getD p el0).2.2.2)))] [(165,aL ((zs21.getD p el0).2.2.1) (zs21.getD p el0).2.1.attrs ((zs21.getD p el0).2.2.2)),(166,nv q)] [22,161,162] [A19=some ad194,(0:Int)≤(p:Int),(p:Int)<(zs21.length:Int),la 49 ((ad194.add ((p:Int).toNat*6)).add 5) (aL ((zs21.getD p el0).2.2.1) (zs21.getD p el0).2.1.attrs ((zs21.getD p el0).2.2.2)) wu] ⟨a195,(by omega),(by omega),loads1 rfl (elem_cell c196 5 _ rfl),trivial⟩ ?_
     obtain⟨ad203,a204,c205⟩:=((KeyI.below (bt HBv HBu) hKA_).1 p (by omega) q (by omega)).cells
     replace c205:CellsAt wu (ad203.add ((q:Int).toNat*4)) [sT (ovS p)]:=c205
     refine xr 9 [(167,.idx ad203),(169,.load (sT (ovS p))),(172,.eq (i6 (97+(Int.tmod (p:Int) 20)))),(173,.eq (.int .i32 (97+(Int.tmod (p:Int) 20)))),(174,.as (sT (Utf8.encode (97+(Int.tmod (p:Int) 20))))),(175,.as (sT ((⟨#[111,118,101,114]⟩:ByteArray)++(Utf8.encode (97+(Int.tmod (p:Int) 20))))))] [(169,sT (ovS p)),(175,sT ((⟨#[111,118,101,114]⟩:ByteArray)++(Utf8.encode (97+(Int.tmod (p:Int) 20)))))] [165,166] [((zs21.getD p el0).2.2.1)=some ad203,(0:Int)≤(q:Int),(q:Int)<((zs21.getD p el0).2.1.attrs.length:Int),la 9 (ad203.add ((q:Int).toNat*4)) (sT (ovS p)) wu,_,Value.int .i32 (IntKind.i32.wrap (97+(Int.tmod (p:Int) 20)))=Value.int .i32 (97+(Int.tmod (p:Int) 20)),RunsAs Tryz.prog [(173,.int .i32 (97+(Int.tmod (p:Int) 20)))] (Go.Op.convert 21 9 (Go.Operand.tmp 173)) 9 (sT (Utf8.encode (97+(Int.tmod (p:Int) 20)))) wu,RunsAs Tryz.prog [(174,sT (Utf8.encode (97+(Int.tmod (p:Int) 20))))] (Go.Op.binOp Go.BinOp.add 9 (Go.Operand.const (Go.Value.string { data:=#[111,118,101,114] })) (Go.Operand.tmp 174) 9) 9 (sT ((⟨#[111,118,101,114]⟩:ByteArray)++(Utf8.encode (97+(Int.tmod (p:Int) 20))))) wu] ⟨a204,(by omega),(by omega),loads1 rfl (elem_cell c205 0 _ rfl),w6 (97+(Int.tmod (p:Int) 20)),wr_i32 (by omega) (by omega),runs_conv rfl (run_convert_int_string _ _ _ _ _ (by kernel_rfl) Tryz.underlying9),runs_bin rfl rfl rfl (run_sadd (by omega)),trivial⟩ ?_
     by_cases c206:(ovS p)=((⟨#[111,118,101,114]⟩:ByteArray)++(Utf8.encode (97+(Int.tmod (p:Int) 20))))
     ·refine xe 1 [(176,.eq bF)] [(0,aL A cs c),(4,pw d 0),(7,aL A16 (B.can (cs.map B.opC)) c17),(10,aL A19 zs21 c20),(11,aL A28 cs c29),(13,pw w42.heap.size 0),(15,pw w59.heap.size 0),(17,aL A73 cs c74),(21,nv p),(148,i6 (zs21.length:Int)),(149,nv p),(157,i6 ((zs21.getD p el0).2.1.attrs.length:Int)),(158,nv q),(176,bF)] [Value.bool (!(ovS p).toList==((⟨#[111,118,101,114]⟩:ByteArray)++(Utf8.encode (97+(Int.tmod (p:Int) 20)))).toList)=bF] ⟨congrArg Value.bool (strNeF (c206)),trivial⟩ ?_
      refine nl (cf (sk (rg (xr1 2 [(177,.eq (i6 ((q:Int)+1)))] [(158,i6 ((q:Int)+1))] [176] (w6 ((q:Int)+1)) ?_))))
      refine nl ?_
      refine⟨(q+1),by kernel_rfl,?_,?_⟩
      ·exact⟨by omega,HBu⟩
      (try dsimp only); omega
     exact absurd rfl c206
    refine xr1 1 [(159,.eq bF)] [(159,bF)] [] (dF c193) ?_
    refine nl (sq (cf (X_exit (rg (xr1 2 [(178,.eq (i6 ((p:Int)+1)))] [(149,i6 ((p:Int)+1))] [21,157,158,159] (w6 ((p:Int)+1)) ?_)))))
    refine nl ?_
    refine⟨(p+1),by kernel_rfl,?_,?_⟩
    ·exact⟨by omega,(bt HBv HBu)⟩
    (try dsimp only); omega
   refine xr1 1 [(150,.eq bF)] [(150,bF)] [] (dF c183) ?_
   refine nl (sq (cf (X_exit (sg (xr1 2 [(180,.load (aL A38 (cs.getD 0 cell0).attrs c39))] [(180,aL A38 (cs.getD 0 cell0).attrs c39)] [13,148,149,150] (lc 49 (Blk.below kp179 HBv) 5) ?_)))))
   have q209:wz.heap.size≤wv.heap.size:=(HBv).size
   refine xc 27 ent27 [aL A38 (cs.getD 0 cell0).attrs c39] (over_any _ _ _ (fun g_=>(w36.heap.size≤g_∧g_<w42.heap.size)∨wv.heap.size≤g_) _ (fun _ h_=>.inr h_) (LiesO.imp (LiesO.below HBv kp177) (fun g_ h_=>.inl h_)) (by have h1_:=(hz 0 (by omega)).2.2.1; omega)) ?_
   rintro e w207 ⟨rfl,s208⟩; refine⟨_,rfl,?_⟩
   have q210:=s208.size
   have kp213:=Kd.R_far (Kd.R_below kp175 HBv) s208 (fun g_ h1_ h2_=>by (try dsimp only at h1_ h2_); omega)
   have kp214:=Kd.R_far (Kd.R_below kp176 HBv) s208 (fun g_ h1_ h2_=>by (try dsimp only at h1_ h2_); omega)
   have kp215:=ShapeP.far (ShapeP.below HBv kp178) s208 (fun g_ h1_ h2_=>by (try dsimp only at h1_ h2_); omega)
   have kp216:=SpoilO.far s208 (Blk.below kp180 HBv) (fun h2_=>by (try dsimp only at h2_); omega)
   have kp217:=ShapeQ.far (ShapeQ.below HBv hSh1) s208 (fun g_ h1_ h2_=>by (try dsimp only at h1_ h2_); omega)
   have hBa211:Below w13.heap.size w13 w207:=((bt hBa173 HBv)).trans (SpoilO.lo s208 (((bt hBa173 HBv)).size) (fun g_ h1_ h2_=>by (try dsimp only at h2_); omega))
   refine nl (sg (xr0 1 [(182,aL A19 zs21 c20)] [10,180,181] ?_))
   have q220:w207.heap.size≤w207.heap.size:=(Nat.le_refl _)
   refine xc 28 ent28 [aL A19 zs21 c20] (overCells_any _ _ _ (fun g_=>(w13.heap.size≤g_∧g_<w26.heap.size)∨w207.heap.size≤g_) _ (fun _ h_=>.inr h_) (ShapeP.imp (ShapeQ.shapeP kp217 (fun j_ _=>Nat.le_trans (hmA_ j_) (by decide))) (fun g_ h_=>.inl h_)) (by omega)) ?_
   rintro e w218 ⟨rfl,s219⟩; refine⟨_,rfl,?_⟩
   have q221:=s219.size
   have kp224:=Kd.R_far kp213 s219 (fun g_ h1_ h2_=>by (try dsimp only at h1_ h2_); omega)
   have kp225:=Kd.R_far kp214 s219 (fun g_ h1_ h2_=>by (try dsimp only at h1_ h2_); omega)
   have kp226:=ShapeP.far kp215 s219 (fun g_ h1_ h2_=>by (try dsimp only at h1_ h2_); omega)
   have kp227:=SpoilO.far s219 kp216 (fun h2_=>by (try dsimp only at h2_); omega)
   have hBa222:Below w13.heap.size w13 w218:=(hBa211).trans (SpoilO.lo s219 ((hBa211).size) (fun g_ h1_ h2_=>by (try dsimp only at h2_); omega))
   refine nl (sg (xr0 1 [(184,aL A73 cs c74)] [17,182,183] ?_))
   have q230:w218.heap.size≤w218.heap.size:=(Nat.le_refl _)
   refine xc 28 ent28 [aL A73 cs c74] (overCells_any _ _ _ (fun g_=>(w66.heap.size≤g_∧g_<w80.heap.size)∨w218.heap.size≤g_) _ (fun _ h_=>.inr h_) (ShapeP.imp kp226 (fun g_ h_=>.inl h_)) (by omega)) ?_
   rintro e w228 ⟨rfl,s229⟩; refine⟨_,rfl,?_⟩
   have q231:=s229.size
   have kp234:=Kd.R_far kp224 s229 (fun g_ h1_ h2_=>by (try dsimp only at h1_ h2_); omega)
   have kp235:=Kd.R_far kp225 s229 (fun g_ h1_ h2_=>by (try dsimp only at h1_ h2_); omega)
   have kp236:=SpoilO.far s229 kp227 (fun h2_=>by (try dsimp only at h2_); omega)
   have hBa232:Below w13.heap.size w13 w228:=(hBa222).trans (SpoilO.lo s229 ((hBa222).size) (fun g_ h1_ h2_=>by (try dsimp only at h2_); omega))
   refine nl (sq (X_grow [2,8,13,17] 20 (tf 0 20) (by kernel_rfl) (by kernel_rfl) (by kernel_rfl) (fun wd237 b238 h239=>?_)))
   refine XB_runC (fuel':=18) (Below.refl _ _) [0,1] [] [.slice A28 cs.length c29,aL A cs c] (tf 2 18) [(186,aL A28 cs c29),(187,aL A cs c)] [11,184,185] (fun w_=>[]) (fun w_ hC_=>trivial) ?_
   refine XB_act (fuel':=17) 2 (tf 3 17) _ rfl (by kernel_rfl) rfl (by kernel_rfl) rfl ?_
   have B240:Below w.heap.size w wd237:=(bt (bt (bt (bt (bt b2 b4) b7) b14) hBa232) b238)
   refine xc 29 ent29 [.slice A28 cs.length c29,aL A cs c] (r9list_any _ _ _ _ cs cs _ (Kd.C_below (Kd.R_C kp234) b238) (Kd.C_below hx B240)) ?_
   rintro e w241 ⟨rfl,b242⟩; refine⟨_,rfl,?_⟩
   rw[(csEqP_iff _ _).2 rfl]
   refine nl (XB_run (fuel':=14) b242 [3,4,5] [(190,.load (.agg (c6A (cs.getD 0 cell0) (aL A54 (cs.getD 0 cell0).attrs c55))))] [bT,.agg (c6A (cs.getD 0 cell0) (aL A54 (cs.getD 0 cell0).attrs c55)),aL A cs c] (tf 6 14) [(4,pw d 0),(7,aL A16 (B.can (cs.map B.opC)) c17),(189,bT),(190,.agg (c6A (cs.getD 0 cell0) (aL A54 (cs.getD 0 cell0).attrs c55))),(191,aL A cs c)] (fun w_=>[la 51 (⟨w59.heap.size,0,none⟩) (.agg (c6A (cs.getD 0 cell0) (aL A54 (cs.getD 0 cell0).attrs c55))) w_]) (fun w_ hC_=>⟨loadsB rfl rfl (Blk.below kp236 (bt b238 hC_)) 0 ⟨by kernel_rfl,by kernel_rfl⟩,trivial⟩) ?_)
   obtain⟨ad243,B246,c247,a244,c245,l248,C249⟩:=Kd.atCell (Kd.C_below hx B240) (i:=(0:Int)) (by omega) (by omega)
   replace c245:CellsAt wd237 (ad243.add ((0:Int).toNat*6)) (c6L (cs.getD 0 cell0) (aL B246 (cs.getD 0 cell0).attrs c247)):=c245
   replace l248:(cs.getD 0 cell0).attrs.length≤c247:=l248
   replace C249:kAttr.C wd237 B246 ((cs.getD 0 cell0).attrs.length) (cs.getD 0 cell0).attrs:=C249
   refine XB_runC (fuel':=12) b242 [6,7] [(192,.idx ad243),(193,.load (.agg (c6A (cs.getD 0 cell0) (aL B246 (cs.getD 0 cell0).attrs c247))))] [.pointer (some (ad243.add ((0:Int).toNat*6))),.agg (c6A (cs.getD 0 cell0) (aL B246 (cs.getD 0 cell0).attrs c247))] (tf 8 12) [(193,.agg (c6A (cs.getD 0 cell0) (aL B246 (cs.getD 0 cell0).attrs c247)))] [191] (fun w_=>[A=some ad243,(0:Int)≤0,0<(cs.length:Int),la 51 (ad243.add ((0:Int).toNat*6)) (.agg (c6A (cs.getD 0 cell0) (aL B246 (cs.getD 0 cell0).attrs c247))) w_]) (fun w_ hC_=>⟨a244,(by omega),(by omega),loadsE rfl rfl (cells_below c245 hC_) 0 ⟨by kernel_rfl,by kernel_rfl⟩,trivial⟩) ?_
   refine XB_act (fuel':=11) 8 (tf 9 11) _ rfl (by kernel_rfl) rfl (by kernel_rfl) rfl ?_
   refine xc 30 ent30 [.agg (c6A (cs.getD 0 cell0) (aL A54 (cs.getD 0 cell0).attrs c55)),.agg (c6A (cs.getD 0 cell0) (aL B246 (cs.getD 0 cell0).attrs c247))] (r9same_any (cs.getD 0 cell0) (cs.getD 0 cell0) _ _ _ _ _ (Kd.C_below (Kd.R_C kp235) (bt b238 b242)) (Kd.C_below C249 b242)) ?_
   rintro e w250 ⟨rfl,b251⟩; refine⟨_,rfl,?_⟩
   rw[(cEqP_iff (cs.getD 0 cell0) (cs.getD 0 cell0)).2 rfl]
   refine nl (XB_runC (fuel':=7) (bt b242 b251) [9,10,11,12] [] [bT,bT,pw d 0,aL A16 (B.can (cs.map B.opC)) c17] (tf 13 7) [(196,bT),(197,pw d 0),(198,aL A16 (B.can (cs.map B.opC)) c17)] [4,189,190,193,194] (fun w_=>[]) (fun w_ hC_=>trivial) ?_)
   refine XB_act (fuel':=6) 13 (tf 14 6) _ rfl (by kernel_rfl) rfl (by kernel_rfl) rfl ?_
   have B252:Below w_6.heap.size w_6 w250:=(bt (bt (bt (bt b14 hBa232) b238) b242) b251)
   have B253:Below w13.heap.size w13 w250:=(bt (bt (bt hBa232 b238) b242) b251)
   refine xc 31 ent31 [pw d 0,aL A16 (B.can (cs.map B.opC)) c17] (his_any d (B.can (cs.map B.opC)) (B.can (cs.map B.opC)) _ _ _ (hD_d.below B252) hcb_d hcn_d hcz_d (MixK.C (MixK.below m18 B253) (bt (bt B240 b242) b251))) ?_
   rintro e w254 ⟨rfl,b255⟩; refine⟨_,rfl,?_⟩
   rw[(opsEqP_iff _ _).2 rfl]
   refine nl (XB_run (fuel':=3) (bt (bt b242 b251) b255) [14,15,16] [] [bT,bT,aL A16 (B.can (cs.map B.opC)) c17] (tf 17 3) [(201,bT),(202,aL A16 (B.can (cs.map B.opC)) c17)] (fun w_=>[]) (fun w_ hC_=>trivial) ?_)
   refine XB_act (fuel':=2) 17 (tf 18 2) _ rfl (by kernel_rfl) rfl (by kernel_rfl) rfl ?_
   have B256:Below w.heap.size w w254:=(bt (bt (bt B240 b242) b251) b255)
   refine xc 32 ent32 [aL A16 (B.can (cs.map B.opC)) c17] (doc6_any _ _ (B.can (cs.map B.opC)) _ (MixK.C (MixK.below m18 (bt B253 b255)) B256) hcn_d) ?_
   rintro e w257 ⟨rfl,b258⟩; refine⟨_,rfl,?_⟩
   rw[hdoc_]
   refine nl ?_
   have B259:Below wd237.heap.size wd237 w257:=(bt (bt (bt b242 b251) b255) b258)
   refine XB_run (fuel':=0) B259 [18,19] [] [bT,bT] (tf 20 0) [(2,bT)] (fun w_=>[]) (fun w_ hC_=>trivial) ?_
   refine XB_done (by kernel_rfl) ?_
   refine X_ret (rj [bT] hR_ ?_)
   exact⟨rfl,(bt B256 b258)⟩
  exact absurd hb0_8 hb0_15
 refine⟨_,rfl,?_⟩
 rw[errV_pos es _ (Nat.pos_of_ne_zero hb0_8)]
 refine xr0 7 [(4,.pointer none),(6,.iface 301 (.pointer (some (errAt es ((B.cOf cs).2)))))] [32,33] ?_
 refine nl (sq (sg (xe0 7 [(0,aL A cs c),(4,.pointer none),(43,bT)] ?_)))
 refine nl (ct (sg (xe0 1 [(2,bT)] ?_)))
 refine nl (X_ret (rj [bT] hR_ ?_))
 exact⟨rfl,(bt (bt b2 b4) b7)⟩
end Go.Proofs.YtgphmfnkeolbcaaGreatDoor
