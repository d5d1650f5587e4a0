import Derived.Test.YtgphmfnkeolbcaaGreatDoorT73
import Derived.Test.YtgphmfnkeolbcaaGreatDoorT74
import Derived.Test.YtgphmfnkeolbcaaGreatDoorClp
import Derived.Test.YtgphmfnkeolbcaaGreatDoorIn
import Derived.Test.YtgphmfnkeolbcaaGreatDoorRow
import Derived.Test.YtgphmfnkeolbcaaGreatDoorMixP
/- LinesTold returns true. Conditions: sizes, the tables of utf8, the errors' variables. -/
set_option linter.unusedVariables false
set_option linter.unusedSimpArgs false
set_option maxRecDepth 100000
namespace Go.Proofs.YtgphmfnkeolbcaaGreatDoor
open Go Go.RowKit Go.Proofs.YtgphmfnkeolbcaaGreatDoorW.PrintWords RX
theorem row_ge {α:Type}{d:Kd α}{e base:Nat}{w:World}{A:Option Addr}{n c:Nat}{xs:List α}(h:d.R e w base (OkFrom base) (.slice A n c) xs):∀ k,A.map (·.block)=some k→base≤k:=fun k hk=>h.1 k (by rw[ownB]; exact hk)
def ToldI (wl:World)(g22 g21 g3 g12 g4 t:Nat)(A:Option Addr)(n c:Nat)(stop:Int)(pre:List ElL)(M:Nat→Prop)(W:World):Prop:=
 RX.Blk W g22 3 #[i6 (pre.length:Int)]∧RX.Blk W g21 3 #[i6 (t:Int)]∧RX.Blk W g3 3 #[i6 stop]∧RX.Blk W g12 66 #[.slice A n c]∧RX.Blk W g4 4 #[bF]∧M=(fun _=>False)∧Below wl.heap.size wl W
theorem ToldI.own {wl:World}{g22 g21 g3 g12 g4 t n c B:Nat}{A:Option Addr}{stop:Int}(h:wl.heap.size≤B)(M:Nat→Prop):OwnFrom B (fun s W=>ToldI wl g22 g21 g3 g12 g4 t A n c stop s M W):=by
 rintro s W W' row ⟨h1,h2,h3,h4,h5,h6,h7⟩ hg hr
 exact⟨RX.ownFrom_blk (β:=Unit) (B:=B) (fun _=>g22) _ (fun _=>_) () W W' row h1 hg hr,RX.ownFrom_blk (β:=Unit) (B:=B) (fun _=>g21) _ (fun _=>_) () W W' row h2 hg hr,RX.ownFrom_blk (β:=Unit) (B:=B) (fun _=>g3) _ (fun _=>_) () W W' row h3 hg hr,RX.ownFrom_blk (β:=Unit) (B:=B) (fun _=>g12) _ (fun _=>_) () W W' row h4 hg hr,RX.ownFrom_blk (β:=Unit) (B:=B) (fun _=>g4) _ (fun _=>_) () W W' row h5 hg hr,h6,RX.ownFrom_below' (β:=Unit) wl h () W W' row h7 hg hr⟩
def ToldX (wl:World)(g22 g21 g3 g12 g4 t:Nat)(A:Option Addr)(n c:Nat)(stop:Int)(L:List LineA)(cd:Code)(pre:List ElL)(W:World):Prop:=
 (cd=.ret∧¬LOK L pre)∨(cd=.exit 6∧t=0∧stop<(pre.length:Int)∧∃ M,ToldI wl g22 g21 g3 g12 g4 t A n c stop pre M W)
theorem ToldX.own {wl:World}{g22 g21 g3 g12 g4 t n c B:Nat}{A:Option Addr}{stop:Int}{L:List LineA}(h:wl.heap.size≤B)(cd:Code):OwnFrom B (ToldX wl g22 g21 g3 g12 g4 t A n c stop L cd):=by
 rintro s W W' row (⟨h1,h2⟩|⟨h1,h2,h3,M,h4⟩) hg hr
 ·exact .inl ⟨h1,h2⟩
 exact .inr ⟨h1,h2,h3,M,ToldI.own h M s W W' row h4 hg hr⟩
set_option maxHeartbeats 4000000 in
theorem linesTold_law (A:Option Addr)(c:Nat)(xs:List OpA)(stop:Int)(w:World)(hx:kOp.C w A xs.length xs)(hxc:xs.length≤c)(hn:xs.length≤116508)(hz:∀ i,i<xs.length→opSz (xs.getD i op0))(hs: -9223372036854775808≤stop∧stop≤9223372036854775807)(hT:Tabs w)(es:List Addr)(hE:Errs w es):Rt 5 #[.slice A xs.length c,i6 stop] w bT:=by
 have hO:ErrsO w es:=hE.on rfl
 have hEL:ErrsL w es:=hE.on rfl
 refine RX.enterM Tryz.func5 rfl 198 rfl [(0,aL A xs c),(1,i6 stop)] rfl (by kernel_rfl) (fun R_ hR_=>?_)
 refine RX.X_mark0 rfl ?_
 refine sg (xwe 1 [] [(0,aL A xs c),(3,pw w.heap.size 0),(1000000,encD [])] (w.alloc (.cells #[i6 stop] 3)) [] trivial ?_)
 obtain⟨w1,w5,b2,k3,z4⟩:=new_world w #[i6 stop] 3
 rw[w5]
 refine xw 1 [] [(4,pw w1.heap.size 0)] [] (w1.alloc (.cells #[bF] 4)) [] trivial ?_
 obtain⟨w_6,w10,b7,k8,z9⟩:=new_world w1 #[bF] 4
 rw[w10]
 refine nl (sq (sg (xc 33 ent33 [] (lives21_any _ (hT.below (bt b2 b7)) es (hEL.below (bt b2 b7))) ?_)))
 rintro e w11 ⟨rfl,b12⟩; refine⟨_,rfl,?_⟩
 refine xr0 1 [(27,bF)] [26] ?_
 refine nl (cf (sk (sq (sg (xr0 1 [(28,aL A xs c)] [27] ?_)))))
 refine xc 34 ent34 [aL A xs c] (heavy_any _ _ xs _ (Kd.C_below hx (bt (bt b2 b7) b12)) (by omega) hz) ?_
 rintro e w13 ⟨rfl,b14⟩; refine⟨_,rfl,?_⟩
 refine nl ?_
 by_cases c15:decide (6000<hvS xs)=true
 ·rw[show (decide (6000<hvS xs):Bool)=true from by simpa using c15]
  refine ct (sg (xst bT (Blk.below k8 (bt b12 b14)) 0 #[bT] (fun w16 g17 k18 z19=>?_)))
  refine nl (X_ret (RX.retM_cell (P:=Tryz.prog) (fn:=Tryz.f5) (N:=198) (R:=R_) (c:=4) (t:=4) (p:=⟨w1.heap.size,0,none⟩) (v:=bT) (ds:=[]) (dsOf_enc (by kernel_rfl)) List.nodup_nil (Defs.store (Blk.below k8 (bt b12 b14)) g17 (Defs.below b14 (Defs.below b12 (Defs.below b7 (Defs.below b2 (fun _ h_=>by cases h_)))))) rfl rfl k18 (fun w_ hb_=>loads1 rfl (Blk.cell hb_ 0 _ rfl)) (fun w_ ho_=>hR_ _ _ ?_)))
  have B22:Below w.heap.size w w16:=(bg (bt (bt (bt b2 b7) b12) b14) g17 (b2).size)
  exact⟨rfl,Off.below ho_ B22 (fun D_ hm_=>by cases hm_)⟩
 have hlg:=of_decide_eq_false (Bool.eq_false_iff.2 c15)
 obtain⟨hlg1,hlg2⟩:=hvS_bd xs
 rw[show (decide (6000<hvS xs):Bool)=false from by simpa using c15]
 refine cf (sk (sg (xr0 1 [(31,aL A xs c)] [0,28,29] ?_)))
 refine xc 35 ent35 [aL A xs c] (made_any _ _ xs _ (Kd.C_below hx (bt (bt (bt b2 b7) b12) b14)) hxc (by omega) hz (by omega) (hT.below (bt (bt (bt b2 b7) b12) b14)) es (hO.below (bt (bt (bt b2 b7) b12) b14))) ?_
 rintro e w23 ⟨b24,⟨hb0_25,d,A26,c27,A28,c29,rfl,d30,m31⟩|⟨hb0_25,rfl⟩⟩
 ·refine ⟨_,rfl,?_⟩
  obtain⟨hcb_d,hcn_d,hcz_d,hcc_d⟩:=can_facts (xs:=xs) hb0_25 (by omega) hz (by omega)
  have hcs_d:=(B.of_can hcc_d).2.1
  have hcf_d:(cellsAll (B.can xs)).length≤100000000:=by have h1_:=cellsAll_few (B.can xs); have h2_:=B.can_tx (fine_all2 hz); have h3_:=B.can_len xs; omega
  have hD_d:=d30.c
  have C32:kOp.C w23 A28 (B.can xs).length (B.can xs):=MixK.C m31 b24
  refine xr0 7 [(5,pw d 0),(6,aL A28 (B.can xs) c29),(7,bT)] [31,32] ?_
  refine nl (sq (sg (xe0 2 [(3,pw w.heap.size 0),(4,pw w1.heap.size 0),(5,pw d 0),(6,aL A28 (B.can xs) c29),(37,bF),(1000000,encD [])] ?_)))
  refine nl (cf (sk (sq (sg (xr0 2 [(39,bF)] [37] ?_)))))
  refine nl (cf (sk (sg (xr0 1 [(41,pw d 0)] [39] ?_))))
  have B39:Below w.heap.size w w23:=(bt (bt (bt (bt b2 b7) b12) b14) b24)
  refine xc 36 ent36 [pw d 0] (lines_any d (B.can xs) _ hD_d hcb_d hcs_d hcn_d hcz_d hcf_d (hT.below B39) es (hEL.below B39)) ?_
  rintro e w40 ⟨A33,c34,ls35,el36,rfl,l37,r38,b41⟩; refine⟨_,rfl,?_⟩
  refine xr0 5 [(8,aL A33 ls35 c34),(9,errV es (lnErr (B.can xs)))] [41,42] ?_
  refine nl (sg (xr0 1 [(46,pw d 0)] [] ?_))
  refine xc 36 ent36 [pw d 0] (lines_any d (B.can xs) _ (hD_d.below b41) hcb_d hcs_d hcn_d hcz_d hcf_d (hT.below (bt B39 b41)) es (hEL.below (bt B39 b41))) ?_
  rintro e w48 ⟨A42,c43,ls44,el45,rfl,l46,r47,b49⟩; refine⟨_,rfl,?_⟩
  refine xr0 5 [(10,aL A42 ls44 c43)] [46,47] ?_
  refine nl (sg (xe0 1 [(3,pw w.heap.size 0),(4,pw w1.heap.size 0),(5,pw d 0),(6,aL A28 (B.can xs) c29),(8,aL A33 ls35 c34),(9,errV es (lnErr (B.can xs))),(10,aL A42 ls44 c43),(51,aL A28 (B.can xs) c29),(1000000,encD [])] ?_))
  refine xc 37 ent37 [aL A28 (B.can xs) c29] (r21lines_any _ _ (B.can xs) _ (Kd.C_below C32 (bt b41 b49)) (by omega) hcz_d hcf_d) ?_
  rintro e w56 ⟨A50,c51,ls52,el53,rfl,l54,r55,b57⟩; refine⟨_,rfl,?_⟩
  refine xw 4 [] [(12,pw w56.heap.size 0),(53,aL A50 ls52 c51),(54,i6 (lnErr (B.can xs):Int))] [51,52] (w56.alloc (.cells #[.slice none 0 0] 66)) [] trivial ?_
  obtain⟨w58,w62,b59,k60,z61⟩:=new_world w56 #[.slice none 0 0] 66
  rw[w62]
  refine xst (aL A50 ls52 c51) k60 0 #[aL A50 ls52 c51] (fun w63 g64 k65 z66=>?_)
  have B67:Below w1.heap.size w1 w56:=(bt (bt (bt (bt (bt (bt b7 b12) b14) b24) b41) b49) b57)
  have hne68:w.heap.size≠w56.heap.size:=Blk.tne (Blk.below k3 (bt B67 b59)) k60 rfl
  have k69:=Blk.other (Blk.below k3 (bt B67 b59)) g64 hne68
  have B70:Below w_6.heap.size w_6 w56:=(bt (bt (bt (bt (bt b12 b14) b24) b41) b49) b57)
  have hne71:w1.heap.size≠w56.heap.size:=Blk.tne (Blk.below k8 (bt B70 b59)) k60 rfl
  have k72:=Blk.other (Blk.below k8 (bt B70 b59)) g64 hne71
  have r73:=Kd.R_off (Kd.R_below r55 b59) k60 (by decide) g64
  have r74:=Kd.R_off (Kd.R_below r47 (bt b57 b59)) k60 (by decide) g64
  have r75:=Kd.R_off (Kd.R_below r38 (bt (bt b49 b57) b59)) k60 (by decide) g64
  refine xr0 1 [(13,i6 (lnErr (B.can xs):Int))] [53,54] ?_
  refine nl (sg (xr0 1 [(56,pw d 0)] [] ?_))
  have B76:Below w23.heap.size w23 w63:=(bg (bt (bt (bt b41 b49) b57) b59) g64 ((bt (bt b41 b49) b57)).size)
  have B77:Below w.heap.size w w63:=(bg (bt (bt (bt (bt B39 b41) b49) b57) b59) g64 ((bt (bt (bt B39 b41) b49) b57)).size)
  refine xc 38 ent38 [pw d 0] (lntext_any d (B.can xs) _ (hD_d.below B76) hcb_d hcs_d hcn_d hcz_d hcf_d (hT.below B77) es (hEL.below B77)) ?_
  rintro e w78 ⟨rfl,b79⟩; refine⟨_,rfl,?_⟩
  refine xr0 5 [(14,sT (if isDoc (B.can xs)=true then lnText (cellsAll (B.can xs))else ByteArray.empty)),(15,errV es (if isDoc (B.can xs)=true then 0 else 9:Nat))] [56,57] ?_
  refine nl (sg (xr0 1 [(61,aL A28 (B.can xs) c29)] [] ?_))
  refine xc 39 ent39 [aL A28 (B.can xs) c29] (r21txt_any _ _ (B.can xs) _ (Kd.C_below C32 (bt B76 b79)) (by omega) hcz_d hcf_d) ?_
  rintro e w80 ⟨rfl,b81⟩; refine⟨_,rfl,?_⟩
  refine xe0 5 [(3,pw w.heap.size 0),(4,pw w1.heap.size 0),(5,pw d 0),(6,aL A28 (B.can xs) c29),(8,aL A33 ls35 c34),(9,errV es (lnErr (B.can xs))),(10,aL A42 ls44 c43),(12,pw w56.heap.size 0),(13,i6 (lnErr (B.can xs):Int)),(14,sT (if isDoc (B.can xs)=true then lnText (cellsAll (B.can xs))else ByteArray.empty)),(15,errV es (if isDoc (B.can xs)=true then 0 else 9:Nat)),(16,sT (if isDoc (B.can xs)=true then lnText (cellsAll (B.can xs))else ByteArray.empty)),(17,i6 ((if isDoc (B.can xs)=true then 0 else 9:Nat):Int)),(1000000,encD [])] ?_
  refine nl (sq (sg (xr0 1 [(65,errV es (lnErr (B.can xs)))] [9] ?_)))
  refine xc 40 ent40 [errV es (lnErr (B.can xs))] (num_any es (lnErr (B.can xs)) (lnErr_le _) _ (hE.below (bt (bt B77 b79) b81))) ?_
  rintro e w82 ⟨rfl,b83⟩; refine⟨_,rfl,?_⟩
  refine xr0 1 [(66,i6 ((lnErr (B.can xs)):Int)),(67,i6 (lnErr (B.can xs):Int))] [13,65] ?_
  by_cases c84:((lnErr (B.can xs)):Int)=(lnErr (B.can xs):Int)
  ·refine xr 4 [(68,.eq bF),(71,.load (aL A50 ls52 c51))] [(69,bF),(70,aL A33 ls35 c34),(71,aL A50 ls52 c51)] [66,67] [_,_] ⟨nF c84,lc 66 (Blk.below k65 (bt (bt b79 b81) b83)) 0,trivial⟩ ?_
   refine xc 41 ent41 [.slice A33 ls35.length c34,aL A50 ls52 c51] (sameLines_any _ _ _ _ ls35 ls52 _ (Kd.R_C (Kd.R_below r75 (bt (bt b79 b81) b83))) (Kd.R_C (Kd.R_below r73 (bt (bt b79 b81) b83)))) ?_
   rintro e w85 ⟨rfl,b86⟩; refine⟨_,rfl,?_⟩
   rw[(lnsEqP_iff ls35 ls52).2 (by rw[el36,el53])]
   refine xr0 4 [(75,bF),(76,errV es (if isDoc (B.can xs)=true then 0 else 9:Nat))] [15,69,70,71,72] ?_
   have B87:Below w.heap.size w w85:=(bt (bt (bt (bt B77 b79) b81) b83) b86)
   refine xc 40 ent40 [errV es (if isDoc (B.can xs)=true then 0 else 9:Nat)] (num_any es (if isDoc (B.can xs)=true then 0 else 9:Nat) (by split<;>omega) _ (hE.below B87)) ?_
   rintro e w88 ⟨rfl,b89⟩; refine⟨_,rfl,?_⟩
   refine xr 6 [(79,.eq bF)] [(81,bF),(82,sT (if isDoc (B.can xs)=true then lnText (cellsAll (B.can xs))else ByteArray.empty)),(83,sT (if isDoc (B.can xs)=true then lnText (cellsAll (B.can xs))else ByteArray.empty))] [14,16,17,75,76,77] [Value.bool (((if isDoc (B.can xs)=true then 0 else 9:Nat):Int) !=((if isDoc (B.can xs)=true then 0 else 9:Nat):Int))=bF] ⟨congrArg Value.bool (bneF rfl),trivial⟩ ?_
   by_cases c90:(if isDoc (B.can xs)=true then lnText (cellsAll (B.can xs))else ByteArray.empty)=(if isDoc (B.can xs)=true then lnText (cellsAll (B.can xs))else ByteArray.empty)
   ·refine xe 2 [(84,.eq bF)] [(3,pw w.heap.size 0),(4,pw w1.heap.size 0),(5,pw d 0),(6,aL A28 (B.can xs) c29),(8,aL A33 ls35 c34),(10,aL A42 ls44 c43),(12,pw w56.heap.size 0),(85,bF),(1000000,encD [])] [Value.bool (!(if isDoc (B.can xs)=true then lnText (cellsAll (B.can xs))else ByteArray.empty).toList==(if isDoc (B.can xs)=true then lnText (cellsAll (B.can xs))else ByteArray.empty).toList)=bF] ⟨congrArg Value.bool (strNeF (c90)),trivial⟩ ?_
    refine nl (cf (sk (sq (sg (xr0 3 [(87,i6 (ls35.length:Int)),(88,i6 0)] [85] ?_)))))
    refine nl (X_block ?_)
    have hsh91:ShapeL 78 57 (fun g_=>(w23.heap.size≤g_∧g_<w40.heap.size)∨w88.heap.size≤g_) w40 A33 ls35.length c34 0:=shapeL_lines r38 (fun j_ h_=>by rw[el36]at h_ ⊢; exact lnOf_att hcz_d _ (getD_mem line0 h_)) (fun g_ h1_ h2_=>.inl ⟨h1_,h2_⟩)
    have B92:Below w40.heap.size w40 w88:=(bt (bt (bt (bt (bt (bg (bt (bt b49 b57) b59) g64 ((bt b49 b57)).size) b79) b81) b83) b86) b89)
    have hll_:ls35.length≤100000000:=by have h1_:=lnOf_len (B.can xs); rw[el36]; omega
    refine X_loop (ι:=Nat) (fun i=>[(3,pw w.heap.size 0),(4,pw w1.heap.size 0),(5,pw d 0),(6,aL A28 (B.can xs) c29),(8,aL A33 ls35 c34),(10,aL A42 ls44 c43),(12,pw w56.heap.size 0),(87,i6 (ls35.length:Int)),(88,i6 (i:Int)),(1000000,encD [])]) (fun i wz=>i≤ls35.length∧ShapeL 78 57 (fun g_=>(w23.heap.size≤g_∧g_<w40.heap.size)∨w88.heap.size≤g_) wz A33 ls35.length c34 i∧SpoilO (fun e_=>e_=57∨e_=78) (fun g_=>(w23.heap.size≤g_∧g_<w40.heap.size)∨w88.heap.size≤g_) w88 wz) (fun i=>ls35.length-i) 0 ⟨Nat.zero_le _,(ShapeL.below B92 hsh91),SpoilO.refl _ _ _⟩ (by kernel_rfl) ?_
    rintro i wz ⟨hi,hSh1,hS1⟩
    refine sq (X_region ?_)
    by_cases c93:(i:Int)<(ls35.length:Int)
    ·refine xr1 1 [(89,.eq bT)] [(89,bT)] [] (dT c93) ?_
     refine nl (sq (ct (sk (sq (bk (sg (xr0 2 [(18,nv i)] [89] ?_)))))))
     refine nl (sq (sg (xr0 2 [(91,aL A33 ls35 c34),(92,nv i)] [] ?_)))
     obtain⟨ad94,a97,a98,B99,m100,c101,a102,a95,c96,L103,m104⟩:=(hSh1).r i (Nat.le_refl _) (by omega)
     obtain⟨hmc_,hcc_,_⟩:=id L103
     replace c96:CellsAt wz (ad94.add ((i:Int).toNat*4)) [a97,a98,.slice B99 m100 c101,a102]:=c96
     refine xr 5 [(93,.idx ad94),(95,.load (.slice B99 m100 c101))] [(96,nv m100),(97,i6 0)] [91,92] [A33=some ad94,(0:Int)≤(i:Int),(i:Int)<(ls35.length:Int),la 49 ((ad94.add ((i:Int).toNat*4)).add 2) (.slice B99 m100 c101) wz] ⟨a95,(by omega),(by omega),loads1 rfl (elem_cell c96 2 _ rfl),trivial⟩ ?_
     refine nl (bk (X_loop (ι:=Nat) (fun j=>[(3,pw w.heap.size 0),(4,pw w1.heap.size 0),(5,pw d 0),(6,aL A28 (B.can xs) c29),(8,aL A33 ls35 c34),(10,aL A42 ls44 c43),(12,pw w56.heap.size 0),(18,i6 (i:Int)),(87,i6 (ls35.length:Int)),(88,i6 (i:Int)),(96,i6 (m100:Int)),(97,i6 (j:Int)),(1000000,encD [])]) (fun j wj=>j≤m100∧ShapeL 78 57 (fun g_=>(w23.heap.size≤g_∧g_<w40.heap.size)∨w88.heap.size≤g_) wj A33 ls35.length c34 i∧SpoilO (fun e_=>e_=57∨e_=78) (fun g_=>(w23.heap.size≤g_∧g_<w40.heap.size)∨w88.heap.size≤g_) w88 wj∧LiesO 57 4 (fun g_=>(w23.heap.size≤g_∧g_<w40.heap.size)∨w88.heap.size≤g_) wj B99 m100 c101∧CellsAt wj (ad94.add ((i:Int).toNat*4)) [a97,a98,.slice B99 m100 c101,a102]) (fun j=>m100-j) 0 ⟨Nat.zero_le _,hSh1,hS1,L103,c96⟩ (by kernel_rfl) ?_))
     rintro j wj ⟨hj,hSh2,hS2,hL2,hc2⟩
     refine sq (X_region ?_)
     by_cases c105:(j:Int)<(m100:Int)
     ·refine xr1 1 [(98,.eq bT)] [(98,bT)] [] (dT c105) ?_
      refine nl (sq (ct (sk (sq (bk (sg (xr0 2 [(19,nv j)] [98] ?_)))))))
      refine nl (rg (xr0 2 [(100,aL A33 ls35 c34),(101,nv i)] [] ?_))
      obtain⟨ad106,a107,c108⟩:∃ x_,A33=some x_∧CellsAt wj (x_.add ((i:Int).toNat*4)) [a97,a98,.slice B99 m100 c101,a102]:=⟨_,a95,hc2⟩
      refine xr 5 [(102,.idx ad106),(104,.load (.slice B99 m100 c101))] [(104,.slice B99 m100 c101),(105,nv j),(106,.agg #[sT (⟨#[115,112,111,105,108,116]⟩:ByteArray),i6 0,i6 0,s0])] [19,100,101] [A33=some ad106,(0:Int)≤(i:Int),(i:Int)<(ls35.length:Int),la 49 ((ad106.add ((i:Int).toNat*4)).add 2) (.slice B99 m100 c101) wj] ⟨a107,(by omega),(by omega),loads1 rfl (elem_cell c108 2 _ rfl),trivial⟩ ?_
      obtain⟨g112,cs113,a110,g114,k115,s116⟩:=LiesO.at hL2 (by omega)
      obtain⟨ad109,had117⟩:∃ ad_,ad_=(⟨g112,0,none⟩:Addr):=⟨_,rfl⟩
      rw[←had117]at a110
      have c111:True:=trivial
      refine xr 1 [(107,.idx ad109)] [(107,.pointer (some (ad109.add ((j:Int).toNat*4))))] [104,105] [B99=some ad109,(0:Int)≤(j:Int),(j:Int)<(m100:Int)] ⟨a110,(by omega),(by omega),trivial⟩ ?_
      refine XL_spoilO (ok:=(fun g_=>(w23.heap.size≤g_∧g_<w40.heap.size)∨w88.heap.size≤g_)) (v:=.agg #[sT (⟨#[115,112,111,105,108,116]⟩:ByteArray),i6 0,i6 0,s0]) rfl rfl rfl (n:=(j:Int).toNat*4) had117 (by kernel_rfl) k115 g114 [sT (⟨#[115,112,111,105,108,116]⟩:ByteArray),i6 0,i6 0,s0] ⟨by kernel_rfl,by kernel_rfl⟩ (by kernel_rfl) (by simp only[List.length_cons,List.length_nil]; omega) (fun w118 w119=>?_)
      have S120:=SpoilO.trans hS2 (SpoilO.of_wrote w119 (.inl rfl))
      have hSh121:=ShapeL.wr hSh2 (SpoilO.of_wrote (es:=(· =57)) w119 rfl) (by decide)
      have L122:=LiesO.spoil hL2 (SpoilO.of_wrote (es:=(· =57)) w119 rfl)
      have c123:=ShapeL.cells hSh2 (by omega) (SpoilO.of_wrote (es:=(· =57)) w119 rfl) (by decide) a95 hc2
      refine nl (rg (xe1 2 [(108,.eq (i6 ((j:Int)+1)))] [(3,pw w.heap.size 0),(4,pw w1.heap.size 0),(5,pw d 0),(6,aL A28 (B.can xs) c29),(8,aL A33 ls35 c34),(10,aL A42 ls44 c43),(12,pw w56.heap.size 0),(18,nv i),(87,i6 (ls35.length:Int)),(88,nv i),(96,nv m100),(97,i6 ((j:Int)+1)),(1000000,encD [])] (w6 ((j:Int)+1)) ?_))
      refine nl ?_
      refine⟨(j+1),by kernel_rfl,?_,?_⟩
      ·exact⟨by omega,hSh121,S120,L122,c123⟩
      (try dsimp only); omega
     refine xr1 1 [(98,.eq bF)] [(98,bF)] [] (dF c105) ?_
     refine nl (sq (cf (X_exit (rg (xr0 4 [(109,aL A33 ls35 c34),(110,nv i),(111,aL A33 ls35 c34),(112,nv i)] [18,96,97,98] ?_)))))
     obtain⟨ad124,a125,c126⟩:∃ x_,A33=some x_∧CellsAt wj (x_.add ((i:Int).toNat*4)) [a97,a98,.slice B99 m100 c101,a102]:=⟨_,a95,hc2⟩
     refine xw 5 [(113,.idx ad124),(115,.load (.slice B99 m100 c101))] [(115,.slice B99 m100 c101),(117,.slice (some ⟨wj.heap.size,0,none⟩) 1 1)] [111,112] (wj.alloc (.cells #[sT (⟨#[109,111,114,101]⟩:ByteArray),i6 0,i6 0,s0] 57)) [A33=some ad124,(0:Int)≤(i:Int),(i:Int)<(ls35.length:Int),la 49 ((ad124.add ((i:Int).toNat*4)).add 2) (.slice B99 m100 c101) wj] ⟨a125,(by omega),(by omega),loads1 rfl (elem_cell c126 2 _ rfl),trivial⟩ ?_
     obtain⟨w127,w131,b128,k129,z130⟩:=new_world wj #[sT (⟨#[109,111,114,101]⟩:ByteArray),i6 0,i6 0,s0] 57
     rw[w131]
     rw[←w131]
     refine XL_appendLiesO rfl rfl rfl 57 (.agg #[s0,i6 0,i6 0,s0]) 4 48 Tryz.underlying49 info57 rfl (by decide) [sT (⟨#[109,111,114,101]⟩:ByteArray),i6 0,i6 0,s0] (by kernel_rfl) (by kernel_rfl) (by kernel_rfl) (fun g_ h_=>.inr (Nat.le_trans (hS2).size h_)) hL2 (by omega) (by omega) (fun A132 c133 w134 w135 L136=>?_)
     have S137:=SpoilO.trans hS2 (SpoilO.of_wrote w135 (.inl rfl))
     have hSh138:=ShapeL.wr hSh2 (SpoilO.of_wrote (es:=(· =57)) w135 rfl) (by decide)
     have c140:=ShapeL.cells hSh2 (by omega) (SpoilO.of_wrote (es:=(· =57)) w135 rfl) (by decide) a95 hc2
     obtain⟨ad141,a142,c143⟩:∃ x_,A33=some x_∧CellsAt w134 (x_.add ((i:Int).toNat*4)) [a97,a98,.slice B99 m100 c101,a102]:=⟨_,a95,c140⟩
     refine xr 2 [(119,.idx ad141)] [(118,.slice A132 (m100+1) c133),(120,.pointer (some ((ad141.add ((i:Int).toNat*4)).add 2)))] [109,110,115,117] [A33=some ad141,(0:Int)≤(i:Int),(i:Int)<(ls35.length:Int)] ⟨a142,(by omega),(by omega),trivial⟩ ?_
     refine XL_putL (i:=i) (v:=.slice A132 (m100+1) c133) rfl rfl rfl (ShapeL.next hSh138) (by omega) a142 (by kernel_rfl) ⟨by kernel_rfl,by kernel_rfl⟩ (by kernel_rfl) (fun w144 w145 hSh146=>?_)
     have S147:=SpoilO.trans S137 (SpoilO.of_wrote w145 (.inr rfl))
     have L149:=LiesO.spoil L136 (SpoilO.of_wrote (es:=(· =78)) w145 rfl)
     refine nl (rg (xr1 2 [(121,.eq (i6 ((i:Int)+1)))] [(88,i6 ((i:Int)+1))] [118,120] (w6 ((i:Int)+1)) ?_))
     refine nl ?_
     refine⟨(i+1),by kernel_rfl,?_,?_⟩
     ·exact⟨by omega,hSh146,S147⟩
     (try dsimp only); omega
    refine xr1 1 [(89,.eq bF)] [(89,bF)] [] (dF c93) ?_
    refine nl (sq (cf (X_exit (sq (X_region ?_)))))
    have B152:Below w23.heap.size w23 w88:=(bt (bt (bt (bt (bt B76 b79) b81) b83) b86) b89)
    have S151:Spoilt w23.heap.size w40.heap.size w88 wz:=SpoilO.spoilt hS1 (fun g_ h1_ h2_=>h2_.resolve_right (fun h3_=>absurd h1_ (Nat.not_lt.2 h3_))) (B152).size
    have B154:Below w63.heap.size w63 w88:=(bt (bt (bt (bt b79 b81) b83) b86) b89)
    have r153:=Kd.R_spoilt (Kd.R_below r73 B154) S151 (b49).size
    have r155:=Kd.R_spoilt (Kd.R_below r74 B154) S151 (Nat.le_refl _)
    have k156:=Spoilt.blkLo S151 (Blk.below k69 B154) (Nat.lt_of_lt_of_le (Blk.lt k3) ((bt (bt (bt b7 b12) b14) b24)).size)
    have k157:=Spoilt.blkLo S151 (Blk.below k72 B154) (Nat.lt_of_lt_of_le (Blk.lt k8) ((bt (bt b12 b14) b24)).size)
    have k158:=Spoilt.blk S151 (Blk.below k65 B154) ((bt b49 b57)).size
    refine xr0 1 [(122,pw d 0)] [8,87,88,89] ?_
    have B167:Below w.heap.size w wz:=(bsp (bt B87 b89) S151 (B39).size)
    refine xc 42 ent42 [pw d 0] (leach_any d (B.can xs) _ (hD_d.below (bsp B152 S151 (Nat.le_refl _))) hcb_d hcs_d hcn_d hcz_d hcf_d (hT.below B167) es (hEL.below B167)) ?_
    rintro e w168 ⟨g159,A160,c161,ls162,el163,rfl,hge164,k165,r166,b169⟩; refine⟨_,rfl,?_⟩
    have hr9_:kLine.R 78 w168 wz.heap.size (fun k_=>wz.heap.size≤k_∧k_<w168.heap.size) (aL A160 ls162 c161) ls162:=Kd.R_mono (Kd.R_bound r166) (fun k_ hk_=>⟨hk_.2.1,hk_.2.2.1⟩)
    refine xr0 1 [(20,.func (.func 109) #[] #[pw g159 0])] [122,123] ?_
    refine nl (sq (sg (xr1 5 [(128,.load (aL A50 ls52 c51))] [(126,bF),(127,aL A42 ls44 c43),(128,aL A50 ls52 c51)] [10] (lc 66 (Blk.below k158 b169) 0) ?_)))
    refine xc 41 ent41 [.slice A42 ls44.length c43,aL A50 ls52 c51] (sameLines_any _ _ _ _ ls44 ls52 _ (Kd.R_C (Kd.R_below r155 b169)) (Kd.R_C (Kd.R_below r153 b169))) ?_
    rintro e w170 ⟨rfl,b171⟩; refine⟨_,rfl,?_⟩
    rw[(lnsEqP_iff ls44 ls52).2 (by rw[el45,el53])]
    refine xr0 5 [(132,bF),(133,pw d 0),(134,aL A28 (B.can xs) c29)] [5,6,126,127,128,129] ?_
    have B172:Below w23.heap.size w23 w170:=(bt (bt (bsp B152 S151 (Nat.le_refl _)) b169) b171)
    refine xc 43 ent43 [pw d 0,aL A28 (B.can xs) c29] (mis_any d (B.can xs) (B.can xs) _ _ _ (hD_d.below B172) hcb_d hcn_d hcz_d (Kd.C_below C32 B172)) ?_
    rintro e w173 ⟨rfl,b174⟩; refine⟨_,rfl,?_⟩
    rw[(opsEqP_iff _ _).2 rfl]
    refine xe0 2 [(3,pw w.heap.size 0),(4,pw w1.heap.size 0),(12,pw w56.heap.size 0),(20,.func (.func 109) #[] #[pw g159 0]),(137,bF),(1000000,encD [])] ?_
    refine nl (cf (sk (sq (sg (xw 1 [] [(21,pw w173.heap.size 0)] [137] (w173.alloc (.cells #[i6 0] 3)) [] trivial ?_)))))
    obtain⟨w175,w179,b176,k177,z178⟩:=new_world w173 #[i6 0] 3
    rw[w179]
    refine xst (i6 0) k177 0 #[i6 0] (fun w180 g181 k182 z183=>?_)
    have B184:Below wz.heap.size wz w175:=(bt (bt (bt b169 b171) b174) b176)
    have hne185:w1.heap.size≠w173.heap.size:=Blk.tne (Blk.below k157 B184) k177 rfl
    have k186:=Blk.other (Blk.below k157 B184) g181 hne185
    have hne187:w56.heap.size≠w173.heap.size:=Blk.tne (Blk.below k158 B184) k177 rfl
    have k188:=Blk.other (Blk.below k158 B184) g181 hne187
    have hne189:g159≠w173.heap.size:=Blk.tne (Blk.below k165 (bt (bt b171 b174) b176)) k177 rfl
    have k190:=Blk.other (Blk.below k165 (bt (bt b171 b174) b176)) g181 hne189
    have r191:=Kd.R_off (Kd.R_below r153 B184) k177 (by decide) g181
    refine nl (X_block ?_)
    have hCw0_:kLine.C w180 A50 ls52.length ls52:=Kd.R_C r191
    have hl34_:ls162.length=ls52.length:=by rw[el163,el53]
    have hlm_:ls52.length≤100000000:=by have h1_:=lnOf_len (B.can xs); rw[el53]; omega
    refine X_loop (ι:=Nat×List Nat×Nat) (fun⟨t,ds,g21v⟩=>[(3,pw w.heap.size 0),(4,pw w1.heap.size 0),(12,pw w56.heap.size 0),(20,.func (.func 109) #[] #[pw g159 0]),(21,pw g21v 0),(1000000,encD ds)]) (fun⟨t,ds,g21v⟩ wl=>t≤2∧RX.Blk wl g21v 3 #[i6 (t:Int)]∧Below w180.heap.size w180 wl∧Defs ds wl∧ds.Nodup∧(∀ D∈ds,w180.heap.size≤D)) (fun⟨t,ds,g21v⟩=>2-t) (0,[],w173.heap.size) ⟨by omega,k182,Below.refl _ _,fun _ h_=>(by cases h_),List.nodup_nil,fun _ h_=>(by cases h_)⟩ (by kernel_rfl) ?_
    rintro⟨t,ds,g21v⟩ wl ⟨ht2,hk21,HB,hds,hdn,hdge⟩
    have hCw_:=Kd.C_below hCw0_ HB
    refine sq (sg (xr1 1 [(138,.load (i6 (t:Int)))] [(138,nv t)] [] (lc 3 hk21 0) ?_))
    by_cases c193:(t:Int)<2
    ·refine xr1 1 [(139,.eq bT)] [(139,bT)] [138] (dT c193) ?_
     refine nl (ct (sk (sq (bk (sg (xw 1 [] [(22,pw wl.heap.size 0)] [139] (wl.alloc (.cells #[i6 0] 3)) [] trivial ?_))))))
     obtain⟨w194,w198,b195,k196,z197⟩:=new_world wl #[i6 0] 3
     rw[w198]
     refine xst (i6 0) k196 0 #[i6 0] (fun w199 g200 k201 z202=>?_)
     have B203:Below wz.heap.size wz wl:=(bt (bg B184 g181 ((bt (bt b169 b171) b174)).size) HB)
     have hne204:w1.heap.size≠wl.heap.size:=Blk.tne (Blk.below k186 (bt HB b195)) k196 rfl
     have k205:=Blk.other (Blk.below k186 (bt HB b195)) g200 hne204
     have hne206:w56.heap.size≠wl.heap.size:=Blk.tne (Blk.below k188 (bt HB b195)) k196 rfl
     have k207:=Blk.other (Blk.below k188 (bt HB b195)) g200 hne206
     have hne208:g159≠wl.heap.size:=Blk.tne (Blk.below k190 (bt HB b195)) k196 rfl
     have k209:=Blk.other (Blk.below k190 (bt HB b195)) g200 hne208
     refine nl (sq (sg (xr0 1 [(142,.func (.func 109) #[] #[pw g159 0])] [] ?_)))
     refine nl (X_block ?_)
     have hlh_:wz.heap.size≤w168.heap.size:=(b169).size
     have B210:Below w168.heap.size w168 wl:=(bt (bg (bt (bt b171 b174) b176) g181 ((bt b171 b174)).size) HB)
     have hhW_:w168.heap.size≤wl.heap.size:=(B210).size
     have hwW_:wl.heap.size≤w199.heap.size:=((bg b195 g200 (Nat.le_refl _))).size
     have hg22_:wl.heap.size≤wl.heap.size:=(Nat.le_refl _)
     have hne211:g21v≠wl.heap.size:=Nat.ne_of_lt (Nat.lt_of_lt_of_le (Blk.lt hk21) (Nat.le_refl _))
     have B214:Below w1.heap.size w1 w173:=(bt (bt (bt (bsp (bt (bt (bt (bt (bt (bg (bt B67 b59) g64 (B67).size) b79) b81) b83) b86) b89) S151 ((bt (bt (bt b7 b12) b14) b24)).size) b169) b171) b174)
     have B215:Below w1.heap.size w1 wl:=(bt (bg (bt (bt (bt (bt (bsp (bt (bt (bt (bt (bt (bg (bt B67 b59) g64 (B67).size) b79) b81) b83) b86) b89) S151 ((bt (bt (bt b7 b12) b14) b24)).size) b169) b171) b174) b176) g181 (B214).size) HB)
     have hne213:w.heap.size≠wl.heap.size:=Nat.ne_of_lt (Nat.lt_of_lt_of_le (Blk.lt k3) (B215).size)
     have hne217:w56.heap.size≠wl.heap.size:=Nat.ne_of_lt (Nat.lt_of_lt_of_le (Blk.lt k60) (Nat.le_trans (Nat.le_trans (Nat.le_trans (Nat.le_trans (Nat.le_trans (Nat.le_trans (Nat.le_trans (Nat.le_trans (Nat.le_trans (Nat.le_trans (Nat.le_trans (Nat.le_trans g64.size b79.size) b81.size) b83.size) b86.size) b89.size) S151.b.size) b169.size) b171.size) b174.size) b176.size) g181.size) HB.size))
     have B220:Below w_6.heap.size w_6 w173:=(bt (bt (bt (bsp (bt (bt (bt (bt (bt (bg (bt B70 b59) g64 (B70).size) b79) b81) b83) b86) b89) S151 ((bt (bt b12 b14) b24)).size) b169) b171) b174)
     have B221:Below w_6.heap.size w_6 wl:=(bt (bg (bt (bt (bt (bt (bsp (bt (bt (bt (bt (bt (bg (bt B70 b59) g64 (B70).size) b79) b81) b83) b86) b89) S151 ((bt (bt b12 b14) b24)).size) b169) b171) b174) b176) g181 (B220).size) HB)
     have hne219:w1.heap.size≠wl.heap.size:=Nat.ne_of_lt (Nat.lt_of_lt_of_le (Blk.lt k8) (B221).size)
     have B223:Below w168.heap.size w168 w199:=(bg (bt B210 b195) g200 (B210).size)
     have B224:Below wz.heap.size wz w199:=(bg (bt B203 b195) g200 (B203).size)
     refine X_rangeN (α:=ElL) (ι:=Nat) rfl ent109 (encs:=elLV) (leach_seqN (fun k_=>wz.heap.size≤k_∧k_<w168.heap.size) (fun k_=>wz.heap.size≤k_∧k_<w168.heap.size) wz.heap.size g159 A160 c161 ls162 w199 (Kd.R_below hr9_ B223) (fun _ h_=>h_) (fun k_ h_=>by omega) (by omega) (by rw[el163]; exact lnOf_att hcz_d) k209) (Below.refl _ _) (fun k_ h_=>by omega) (fun _=>rfl) (by kernel_rfl) (fun pre_ M_ W_=>ToldI wl wl.heap.size g21v w.heap.size w56.heap.size w1.heap.size t A50 ls52.length c51 stop pre_ M_ W_) (fun c_ pre_ W_=>ToldX wl wl.heap.size g21v w.heap.size w56.heap.size w1.heap.size t A50 ls52.length c51 stop ls162 c_ pre_ W_) (fun M_=>ToldI.own hwW_ M_) (fun c_=>ToldX.own hwW_ c_) trivial (fun _=>False) ⟨k201,(Blk.below hk21 (bg b195 g200 (Nat.le_refl _))),(Blk.below k156 B224),k207,k205,rfl,(bg b195 g200 (Nat.le_refl _))⟩ (fun x_ i_ W_=>RX.Blk W_ i_ 78 #[i6 x_.2.1.from_,i6 x_.2.1.len,.slice x_.2.2.1 x_.2.1.attrs.length x_.2.2.2,sT x_.2.1.text]∧LPx w199.heap.size x_ W_) (fun i_=>OwnFrom.and (ownFrom_blk (fun _=>i_) 78 (fun(x_:ElL)=>#[i6 x_.2.1.from_,i6 x_.2.1.len,.slice x_.2.2.1 x_.2.1.attrs.length x_.2.2.2,sT x_.2.1.text])) ownFrom_lpx) (fun x_ i_=>[(3,pw w.heap.size 0),(4,pw w1.heap.size 0),(12,pw w56.heap.size 0),(21,pw g21v 0),(22,pw wl.heap.size 0),(23,i6 x_.1),(24,pw i_ 0)]) ?_ ?_ ?_ ?_
     ·rintro lp_ pre_ M_ x_ W_ hlp_ hws_ ⟨hk22_,hk21_,hk3_,hk12_,hk4_,hM_,hBw_⟩ hpx_ hlen_
      have hg22l_:=hk22_.lt
      refine XI_keep [3,4,12,20,21,22,142,143,144] [(3,pw w.heap.size 0),(4,pw w1.heap.size 0),(12,pw w56.heap.size 0),(20,.func (.func 109) #[] #[pw g159 0]),(21,pw g21v 0),(22,pw wl.heap.size 0),(142,.func (.func 109) #[] #[pw g159 0]),(143,i6 x_.1),(144,.agg #[i6 x_.2.1.from_,i6 x_.2.1.len,.slice x_.2.2.1 x_.2.1.attrs.length x_.2.2.2,sT x_.2.1.text])] (by kernel_rfl) ?_
      refine XI_seq ?_
      refine XI_region (by kernel_rfl) (fun _ _ h_=>h_) ?_
      refine xe0 1 [(3,pw w.heap.size 0),(4,pw w1.heap.size 0),(12,pw w56.heap.size 0),(20,.func (.func 109) #[] #[pw g159 0]),(21,pw g21v 0),(22,pw wl.heap.size 0),(23,i6 x_.1),(143,i6 x_.1),(144,.agg #[i6 x_.2.1.from_,i6 x_.2.1.len,.slice x_.2.2.1 x_.2.1.attrs.length x_.2.2.2,sT x_.2.1.text])] ?_
      refine nl (XI_region (by kernel_rfl) (fun _ _ h_=>h_) ?_)
      refine xw 1 [] [(24,pw W_.heap.size 0)] [] (W_.alloc (.cells #[i6 0,i6 0,.slice none 0 0,s0] 78)) [] trivial ?_
      obtain⟨w225,w229,b226,k227,z228⟩:=new_world W_ #[i6 0,i6 0,.slice none 0 0,s0] 78
      rw[w229]
      refine xst (.agg #[i6 x_.2.1.from_,i6 x_.2.1.len,.slice x_.2.2.1 x_.2.1.attrs.length x_.2.2.2,sT x_.2.1.text]) k227 0 #[i6 x_.2.1.from_,i6 x_.2.1.len,.slice x_.2.2.1 x_.2.1.attrs.length x_.2.2.2,sT x_.2.1.text] (fun w230 g231 k232 z233=>?_)
      have hne234:wl.heap.size≠W_.heap.size:=Blk.tne (Blk.below hk22_ b226) k227 rfl
      have k235:=Blk.other (Blk.below hk22_ b226) g231 hne234
      have hne236:g21v≠W_.heap.size:=Blk.tne (Blk.below hk21_ b226) k227 rfl
      have k237:=Blk.other (Blk.below hk21_ b226) g231 hne236
      have hne238:w.heap.size≠W_.heap.size:=Blk.tne (Blk.below hk3_ b226) k227 rfl
      have k239:=Blk.other (Blk.below hk3_ b226) g231 hne238
      have hne240:w56.heap.size≠W_.heap.size:=Blk.tne (Blk.below hk12_ b226) k227 rfl
      have k241:=Blk.other (Blk.below hk12_ b226) g231 hne240
      have hne242:w1.heap.size≠W_.heap.size:=Blk.tne (Blk.below hk4_ b226) k227 rfl
      have k243:=Blk.other (Blk.below hk4_ b226) g231 hne242
      refine nl ?_
      exact⟨W_.heap.size,by kernel_rfl,(KeepsFrom.trans (keeps_below b226) (keeps_store k227 g231)),KpM.below (fun k_ h_=>by omega) ((bg b226 g231 (Nat.le_refl _)):Below W_.heap.size W_ w230),⟨k235,k237,k239,k241,k243,hM_,(bg (bt hBw_ b226) g231 (hBw_).size)⟩,k232,LPx.below ((bg b226 g231 (Nat.le_refl _)):Below W_.heap.size W_ w230) hpx_⟩
     ·rintro lp_ pre_ M_ x_ i_ W_ hlp_ hws_ ⟨hk22_,hk21_,hk3_,hk12_,hk4_,hM_,hBw_⟩ ⟨hki_,hpx_⟩ hlen_
      have hg22l_:=hk22_.lt
      obtain⟨hxl_,wb_,hwb_,hlk_,hra_⟩:=hpx_
      refine XI_block ?_
      refine XI_seq ?_
      refine XI_seq ?_
      refine XI_any (by kernel_rfl) (fun _ _ h_=>h_) [15] 18 (tf 0 18) (by kernel_rfl) (by kernel_rfl) (by kernel_rfl) (fun wd244 b245 h246=>?_)
      refine XA_run (fuel':=16) [0,1] [(146,.load (i6 (pre_.length:Int)))] [i6 x_.1,i6 (pre_.length:Int)] (tf 2 16) [(3,pw w.heap.size 0),(4,pw w1.heap.size 0),(12,pw w56.heap.size 0),(21,pw g21v 0),(22,pw wl.heap.size 0),(24,pw i_ 0),(145,i6 x_.1),(146,i6 (pre_.length:Int))] [la 3 (⟨wl.heap.size,0,none⟩) (i6 (pre_.length:Int)) wd244] ⟨loads1 rfl (Blk.cell (Blk.below hk22_ b245) 0 _ rfl),trivial⟩ ?_
      by_cases c247:x_.1=(pre_.length:Int)
      ·refine XA_runC (fuel':=11) [2,3,4,5,6] [(147,.eq bF),(149,.load (i6 (pre_.length:Int))),(150,.load (aL A50 ls52 c51))] [bF,bF,i6 (pre_.length:Int),.slice A50 ls52.length c51,i6 (ls52.length:Int)] (tf 7 11) [(148,bF),(149,i6 (pre_.length:Int)),(151,i6 (ls52.length:Int))] [145,146] [Value.bool (x_.1 !=(pre_.length:Int))=bF,la 3 (⟨wl.heap.size,0,none⟩) (i6 (pre_.length:Int)) wd244,la 66 (⟨w56.heap.size,0,none⟩) (aL A50 ls52 c51) wd244] ⟨congrArg Value.bool (bneF (c247)),loads1 rfl (Blk.cell (Blk.below hk22_ b245) 0 _ rfl),loads1 rfl (Blk.cell (Blk.below hk12_ b245) 0 _ rfl),trivial⟩ ?_
       by_cases c248:(pre_.length:Int)≥(ls52.length:Int)
       ·refine XA_runC (fuel':=3) [7,8,9,10,11,12,13,14] [(152,.eq bT)] [bT,bT,bT,undef,undef,undef,undef,undef] (tf 15 3) [(154,bT),(155,undef),(159,undef)] [148,149,151] [Value.bool (decide ((pre_.length:Int)≥(ls52.length:Int)))=bT] ⟨congrArg Value.bool (decide_eq_true (c248)),trivial⟩ ?_
        refine XA_pureC (fuel':=2) [15] [] [undef] (tf 16 2) [(160,undef)] [155,159] (fun w_=>[]) (fun w_=>trivial) ?_
        refine XA_pureC (fuel':=0) [16,17] [] [undef,bT] (tf 18 0) [(162,bT)] [154,160] (fun w_=>[]) (fun w_=>trivial) ?_
        refine XA_done (by kernel_rfl) ?_
        refine XI_cond true rfl ?_
        refine XI_seq ?_
        refine XI_region (by kernel_rfl) (fun _ _ h_=>h_) ?_
        refine xst bF (Blk.below hk4_ b245) 0 #[bF] (fun w249 g250 k251 z252=>?_)
        refine nl (XI_ret ?_)
        exact⟨(KeepsFrom.trans (keeps_below b245) (keeps_store (Blk.below hk4_ b245) g250)),.inl ⟨rfl,fun h_=>by have h1_:=LOK.last h_; have h2_:=h1_.1; have h3_:=h1_.2.1; omega⟩⟩
       refine XA_runC (fuel':=5) [7,8,9,10,11,12] [(152,.eq bF),(155,.load (.agg #[i6 x_.2.1.from_,i6 x_.2.1.len,.slice x_.2.2.1 x_.2.1.attrs.length x_.2.2.2,sT x_.2.1.text])),(156,.load (aL A50 ls52 c51)),(157,.load (i6 (pre_.length:Int)))] [bF,bF,bF,.agg #[i6 x_.2.1.from_,i6 x_.2.1.len,.slice x_.2.2.1 x_.2.1.attrs.length x_.2.2.2,sT x_.2.1.text],.slice A50 ls52.length c51,i6 (pre_.length:Int)] (tf 13 5) [(154,bF),(155,.agg #[i6 x_.2.1.from_,i6 x_.2.1.len,.slice x_.2.2.1 x_.2.1.attrs.length x_.2.2.2,sT x_.2.1.text]),(156,aL A50 ls52 c51),(157,i6 (pre_.length:Int))] [148,149,151] [Value.bool (decide ((pre_.length:Int)≥(ls52.length:Int)))=bF,la 78 (⟨i_,0,none⟩) (.agg #[i6 x_.2.1.from_,i6 x_.2.1.len,.slice x_.2.2.1 x_.2.1.attrs.length x_.2.2.2,sT x_.2.1.text]) wd244,la 66 (⟨w56.heap.size,0,none⟩) (aL A50 ls52 c51) wd244,la 3 (⟨wl.heap.size,0,none⟩) (i6 (pre_.length:Int)) wd244] ⟨congrArg Value.bool (decide_eq_false (c248)),loadsB rfl rfl (Blk.below hki_ b245) 0 ⟨by kernel_rfl,by kernel_rfl⟩,loads1 rfl (Blk.cell (Blk.below hk12_ b245) 0 _ rfl),loads1 rfl (Blk.cell (Blk.below hk22_ b245) 0 _ rfl),trivial⟩ ?_
       obtain⟨ad263,B266,c267,a264,c265,l268,C269⟩:=RX.Kd.atLine (Kd.C_below hCw_ (bt hBw_ b245)) (i:=(pre_.length:Int)) (by omega) (by omega)
       replace c265:CellsAt wd244 (ad263.add ((pre_.length:Int).toNat*4)) [i6 ((ls52.getD pre_.length line0).from_),i6 ((ls52.getD pre_.length line0).len),.slice B266 ((ls52.getD pre_.length line0).attrs.length) c267,sT ((ls52.getD pre_.length line0).text)]:=c265
       replace l268:(ls52.getD pre_.length line0).attrs.length≤c267:=l268
       replace C269:kAttr.C wd244 B266 ((ls52.getD pre_.length line0).attrs.length) (ls52.getD pre_.length line0).attrs:=C269
       refine XA_runC (fuel':=3) [13,14] [(158,.idx ad263),(159,.load (.agg #[i6 ((ls52.getD pre_.length line0).from_),i6 ((ls52.getD pre_.length line0).len),.slice B266 ((ls52.getD pre_.length line0).attrs.length) c267,sT ((ls52.getD pre_.length line0).text)]))] [.pointer (some (ad263.add ((pre_.length:Int).toNat*4))),.agg #[i6 ((ls52.getD pre_.length line0).from_),i6 ((ls52.getD pre_.length line0).len),.slice B266 ((ls52.getD pre_.length line0).attrs.length) c267,sT ((ls52.getD pre_.length line0).text)]] (tf 15 3) [(159,.agg #[i6 ((ls52.getD pre_.length line0).from_),i6 ((ls52.getD pre_.length line0).len),.slice B266 ((ls52.getD pre_.length line0).attrs.length) c267,sT ((ls52.getD pre_.length line0).text)])] [156,157] [A50=some ad263,(0:Int)≤(pre_.length:Int),(pre_.length:Int)<(ls52.length:Int),la 78 (ad263.add ((pre_.length:Int).toNat*4)) (.agg #[i6 ((ls52.getD pre_.length line0).from_),i6 ((ls52.getD pre_.length line0).len),.slice B266 ((ls52.getD pre_.length line0).attrs.length) c267,sT ((ls52.getD pre_.length line0).text)]) wd244] ⟨a264,(by omega),(by omega),loadsE rfl rfl c265 0 ⟨by kernel_rfl,by kernel_rfl⟩,trivial⟩ ?_
       refine XA_act (fuel':=2) 15 (tf 16 2) _ rfl (by kernel_rfl) rfl (by kernel_rfl) rfl ?_
       refine xc 44 ent44 [.agg #[i6 x_.2.1.from_,i6 x_.2.1.len,.slice x_.2.2.1 x_.2.1.attrs.length x_.2.2.2,sT x_.2.1.text],.agg #[i6 ((ls52.getD pre_.length line0).from_),i6 ((ls52.getD pre_.length line0).len),.slice B266 ((ls52.getD pre_.length line0).attrs.length) c267,sT ((ls52.getD pre_.length line0).text)]] (sameLine_any x_.2.1 (ls52.getD pre_.length line0) _ _ _ _ _ (Kd.R_C (Kd.R_below hra_ b245)) C269) ?_
       rintro e w270 ⟨rfl,b271⟩; refine⟨_,rfl,?_⟩
       refine nl ?_
       by_cases c272:lnEqP x_.2.1 (ls52.getD pre_.length line0)=true
       ·rw[show (lnEqP x_.2.1 (ls52.getD pre_.length line0):Bool)=true from by simpa using c272]
        refine XA_pureC (fuel':=0) [16,17] [] [bF,bF] (tf 18 0) [(162,bF)] [154,155,159,160] (fun w_=>[]) (fun w_=>trivial) ?_
        refine XA_done (by kernel_rfl) ?_
        refine XI_cond false rfl ?_
        refine XI_skip ?_
        refine XI_seq ?_
        refine XI_seq ?_
        refine XI_region (by kernel_rfl) (fun _ _ h_=>h_) ?_
        refine xr1 4 [(164,.load (aL x_.2.2.1 x_.2.1.attrs x_.2.2.2))] [(165,i6 (x_.2.1.attrs.length:Int)),(166,i6 0)] [162] (lc 49 (Blk.below hki_ (bt b245 b271)) 2) ?_
        refine nl (XI_block ?_)
        have hle_:∀ k_,((x_.2.2.1:Option Addr).map (·.block))=some k_→wb_.heap.size≤k_:=fun k_ e_=>row_ge (Kd.R_below hra_ (bt b245 b271)) k_ e_
        refine XI_loop (ι:=Nat×List At) (fun⟨q,zs_⟩=>[(3,pw w.heap.size 0),(4,pw w1.heap.size 0),(12,pw w56.heap.size 0),(21,pw g21v 0),(22,pw wl.heap.size 0),(24,pw i_ 0),(165,i6 (x_.2.1.attrs.length:Int)),(166,i6 (q:Int))]) (fun⟨q,zs_⟩ wq=>q≤x_.2.1.attrs.length∧zs_.length=x_.2.1.attrs.length∧kAttr.R 57 wq wb_.heap.size (OkFrom wb_.heap.size) (aL x_.2.2.1 x_.2.1.attrs x_.2.2.2) zs_∧w270.grownBy wq ((x_.2.2.1:Option Addr).map (·.block))) (fun⟨q,zs_⟩=>x_.2.1.attrs.length-q) (0,x_.2.1.attrs) ⟨Nat.zero_le _,rfl,(Kd.R_below hra_ (bt b245 b271)),World.grownBy.refl _ _⟩ (by kernel_rfl) ?_
        rintro⟨q,zs_⟩ wq ⟨hq_,hzl_,hrq_,hgq_⟩
        have hrW_:=(Kd.R_below hra_ (bt b245 b271))
        have hne273:=RX.Kd.R_blk_ne (Kd.R_below hra_ (bt b245 b271)) (Blk.below hk22_ (bt b245 b271)) rfl
        have k274:=Blk.ne (Blk.below hk22_ (bt b245 b271)) hgq_ hne273
        have hne275:=RX.Kd.R_blk_ne (Kd.R_below hra_ (bt b245 b271)) (Blk.below hk21_ (bt b245 b271)) rfl
        have k276:=Blk.ne (Blk.below hk21_ (bt b245 b271)) hgq_ hne275
        have hne277:=RX.Kd.R_blk_ne (Kd.R_below hra_ (bt b245 b271)) (Blk.below hk3_ (bt b245 b271)) rfl
        have k278:=Blk.ne (Blk.below hk3_ (bt b245 b271)) hgq_ hne277
        have hne279:=RX.Kd.R_blk_ne (Kd.R_below hra_ (bt b245 b271)) (Blk.below hk12_ (bt b245 b271)) rfl
        have k280:=Blk.ne (Blk.below hk12_ (bt b245 b271)) hgq_ hne279
        have hne281:=RX.Kd.R_blk_ne (Kd.R_below hra_ (bt b245 b271)) (Blk.below hk4_ (bt b245 b271)) rfl
        have k282:=Blk.ne (Blk.below hk4_ (bt b245 b271)) hgq_ hne281
        have hne283:=RX.Kd.R_blk_ne (Kd.R_below hra_ (bt b245 b271)) (Blk.below hki_ (bt b245 b271)) rfl
        have k284:=Blk.ne (Blk.below hki_ (bt b245 b271)) hgq_ hne283
        refine XI_seq ?_
        refine XI_region (by kernel_rfl) (fun _ _ h_=>h_) ?_
        by_cases c285:(q:Int)<(x_.2.1.attrs.length:Int)
        ·refine xr1 1 [(167,.eq bT)] [(167,bT)] [] (dT c285) ?_
         refine nl (XI_seq ?_)
         refine XI_cond true rfl ?_
         refine XI_skip ?_
         refine XI_seq ?_
         refine XI_block ?_
         refine XI_seq ?_
         refine XI_region (by kernel_rfl) (fun _ _ h_=>h_) ?_
         refine xr0 2 [(25,nv q)] [167] ?_
         refine nl (XI_region (by kernel_rfl) (fun _ _ h_=>h_) ?_)
         refine xr1 4 [(170,.load (aL x_.2.2.1 x_.2.1.attrs x_.2.2.2))] [(170,aL x_.2.2.1 x_.2.1.attrs x_.2.2.2),(171,nv q),(172,.agg #[sT (⟨#[115,112,111,105,108,116]⟩:ByteArray),i6 0,i6 0,s0])] [25] (lc 49 k284 2) ?_
         obtain⟨ad286,a287,c288⟩:=Kd.atAttr (Kd.R_C hrq_) (i:=(q:Int)) (by omega) (by omega)
         replace c288:CellsAt wq (ad286.add ((q:Int).toNat*4)) [sT ((zs_.getD q at0).1),i6 ((zs_.getD q at0).2.1),i6 ((zs_.getD q at0).2.2.1),sT ((zs_.getD q at0).2.2.2)]:=c288
         refine xr 1 [(173,.idx ad286)] [(173,.pointer (some (ad286.add ((q:Int).toNat*4))))] [170,171] [x_.2.2.1=some ad286,(0:Int)≤(q:Int),(q:Int)<(x_.2.1.attrs.length:Int)] ⟨a287,(by omega),(by omega),trivial⟩ ?_
         refine XL_rowset kAttr rfl rfl rfl wb_.heap.size 57 (ad:=ad286) (i:=(q:Int)) (v:=.agg #[sT (⟨#[115,112,111,105,108,116]⟩:ByteArray),i6 0,i6 0,s0]) zs_ ((⟨#[115,112,111,105,108,116]⟩:ByteArray),0,0,ByteArray.empty) (by kernel_rfl) a287 hrq_ (by omega) (by omega) [sT (⟨#[115,112,111,105,108,116]⟩:ByteArray),i6 0,i6 0,s0] ⟨by kernel_rfl,by kernel_rfl⟩ (by kernel_rfl) (kAttr_M _ _ _ _) ?_
         intro w289 r290 g291 l292
         refine nl (XI_region (by kernel_rfl) (fun _ _ h_=>h_) ?_)
         refine xr1 2 [(174,.eq (i6 ((q:Int)+1)))] [(166,i6 ((q:Int)+1))] [172,173] (w6 ((q:Int)+1)) ?_
         refine nl ?_
         refine⟨(q+1,(zs_.set (q:Int).toNat ((⟨#[115,112,111,105,108,116]⟩:ByteArray),0,0,ByteArray.empty))),by kernel_rfl,?_,?_⟩
         ·exact⟨by omega,by rw[List.length_set]; exact hzl_,r290,(World.grownBy.trans hgq_ g291)⟩
         (try dsimp only); omega
        refine xr1 1 [(167,.eq bF)] [(167,bF)] [] (dF c285) ?_
        refine nl (XI_seq ?_)
        refine XI_cond false rfl ?_
        refine XI_exit ?_
        refine XI_seq ?_
        refine XI_region (by kernel_rfl) (fun _ _ h_=>h_) ?_
        refine xr 2 [(175,.load (i6 (pre_.length:Int))),(176,.eq (i6 ((pre_.length:Int)+1)))] [(176,i6 ((pre_.length:Int)+1))] [24,165,166,167] [_,_] ⟨lc 3 k274 0,w6 ((pre_.length:Int)+1),trivial⟩ ?_
        refine xst (i6 ((pre_.length:Int)+1)) k274 0 #[i6 ((pre_.length:Int)+1)] (fun w299 g300 k301 z302=>?_)
        have k303:=Blk.other k276 g300 hne211
        have k304:=Blk.other k278 g300 hne213
        have k305:=Blk.other k280 g300 hne217
        have k306:=Blk.other k282 g300 hne219
        refine nl (XI_seq ?_)
        refine XI_region (by kernel_rfl) (fun _ _ h_=>h_) ?_
        refine xr1 1 [(177,.load (i6 (t:Int)))] [(177,nv t)] [176] (lc 3 k303 0) ?_
        by_cases c310:(t:Int)=0
        ·refine xr 4 [(178,.eq bT),(180,.load (i6 ((pre_.length:Int)+1))),(181,.load (i6 stop))] [(179,bT),(180,i6 ((pre_.length:Int)+1)),(181,i6 stop)] [177] [_,_,_] ⟨bE c310,lc 3 k301 0,lc 3 k304 0,trivial⟩ ?_
         by_cases c311:(pre_.length:Int)+1>stop
         ·refine xr1 2 [(182,.eq bT)] [(183,bT)] [179,180,181] (dT c311) ?_
          refine nl (XI_cond true rfl ?_)
          refine XI_exit ?_
          have B312:Below wl.heap.size wl w299:=(bg (bgo (bt (bt hBw_ b245) b271) hgq_ hle_ (Nat.le_trans hwW_ hwb_)) g300 (Nat.le_refl _))
          exact⟨(KeepsFrom.trans (KeepsFrom.trans (KeepsFrom.trans (keeps_below b245) (keeps_below b271)) (keeps_row (Kd.R_below hra_ (bt b245 b271)) hgq_)) (keeps_store k274 g300)),.inr ⟨rfl,by omega,by rw[List.length_append,List.length_singleton]; omega,_,⟨by rw[List.length_append,List.length_singleton]; exact k301,k303,k304,k305,k306,rfl,B312⟩⟩⟩
         refine xr1 2 [(182,.eq bF)] [(183,bF)] [179,180,181] (dF c311) ?_
         refine nl (XI_cond false rfl ?_)
         refine XI_skip ?_
         have B313:Below wl.heap.size wl w299:=(bg (bgo (bt (bt hBw_ b245) b271) hgq_ hle_ (Nat.le_trans hwW_ hwb_)) g300 (Nat.le_refl _))
         exact⟨(KeepsFrom.trans (KeepsFrom.trans (KeepsFrom.trans (keeps_below b245) (keeps_below b271)) (keeps_row (Kd.R_below hra_ (bt b245 b271)) hgq_)) (keeps_store k274 g300)),M_,(KpM.trans (KpM.trans (KpM.trans (KpM.below (fun k_ h_=>Nat.lt_of_lt_of_le (show k_<W_.heap.size by omega) (Nat.le_refl _)) b245) (KpM.below (fun k_ h_=>Nat.lt_of_lt_of_le (show k_<W_.heap.size by omega) b245.size) b271)) (KpM.grown hgq_ (fun k_ e_=>⟨trivial,fun h_=>by have h1_:=(Nat.le_trans hwW_ hwb_); have h2_:=hle_ k_ e_; omega⟩) (fun k_ h_=>Nat.lt_of_lt_of_le (show k_<W_.heap.size by omega) (Nat.le_trans b245.size b271.size)))) (KpM.grown g300 (fun k_ e_=>by injection e_ with e_; subst e_; exact⟨trivial,fun h_=>by omega⟩) (fun k_ h_=>Nat.lt_of_lt_of_le (show k_<W_.heap.size by omega) (Nat.le_trans (Nat.le_trans b245.size b271.size) hgq_.size)))),⟨by rw[List.length_append,List.length_singleton]; exact k301,k303,k304,k305,k306,hM_,B313⟩⟩
        refine xr1 6 [(178,.eq bF)] [(183,bF)] [177] (bN c310) ?_
        refine nl (XI_cond false rfl ?_)
        refine XI_skip ?_
        have B314:Below wl.heap.size wl w299:=(bg (bgo (bt (bt hBw_ b245) b271) hgq_ hle_ (Nat.le_trans hwW_ hwb_)) g300 (Nat.le_refl _))
        exact⟨(KeepsFrom.trans (KeepsFrom.trans (KeepsFrom.trans (keeps_below b245) (keeps_below b271)) (keeps_row (Kd.R_below hra_ (bt b245 b271)) hgq_)) (keeps_store k274 g300)),M_,(KpM.trans (KpM.trans (KpM.trans (KpM.below (fun k_ h_=>Nat.lt_of_lt_of_le (show k_<W_.heap.size by omega) (Nat.le_refl _)) b245) (KpM.below (fun k_ h_=>Nat.lt_of_lt_of_le (show k_<W_.heap.size by omega) b245.size) b271)) (KpM.grown hgq_ (fun k_ e_=>⟨trivial,fun h_=>by have h1_:=(Nat.le_trans hwW_ hwb_); have h2_:=hle_ k_ e_; omega⟩) (fun k_ h_=>Nat.lt_of_lt_of_le (show k_<W_.heap.size by omega) (Nat.le_trans b245.size b271.size)))) (KpM.grown g300 (fun k_ e_=>by injection e_ with e_; subst e_; exact⟨trivial,fun h_=>by omega⟩) (fun k_ h_=>Nat.lt_of_lt_of_le (show k_<W_.heap.size by omega) (Nat.le_trans (Nat.le_trans b245.size b271.size) hgq_.size)))),⟨by rw[List.length_append,List.length_singleton]; exact k301,k303,k304,k305,k306,hM_,B314⟩⟩
       rw[show (lnEqP x_.2.1 (ls52.getD pre_.length line0):Bool)=false from by simpa using c272]
       refine XA_pureC (fuel':=0) [16,17] [] [bT,bT] (tf 18 0) [(162,bT)] [154,155,159,160] (fun w_=>[]) (fun w_=>trivial) ?_
       refine XA_done (by kernel_rfl) ?_
       refine XI_cond true rfl ?_
       refine XI_seq ?_
       refine XI_region (by kernel_rfl) (fun _ _ h_=>h_) ?_
       refine xst bF (Blk.below hk4_ (bt b245 b271)) 0 #[bF] (fun w315 g316 k317 z318=>?_)
       refine nl (XI_ret ?_)
       exact⟨(KeepsFrom.trans (KeepsFrom.trans (keeps_below b245) (keeps_below b271)) (keeps_store (Blk.below hk4_ (bt b245 b271)) g316)),.inl ⟨rfl,fun h_=>c272 (by have h1_:=LOK.last h_; exact(lnEqP_iff _ _).2 (by rw[h1_.2.2,el163,el53]))⟩⟩
      refine XA_runC (fuel':=3) [2,3,4,5,6,7,8,9,10,11,12,13,14] [(147,.eq bT)] [bT,bT,undef,undef,undef,undef,bT,bT,undef,undef,undef,undef,undef] (tf 15 3) [(154,bT),(155,undef),(159,undef)] [145,146] [Value.bool (x_.1 !=(pre_.length:Int))=bT] ⟨congrArg Value.bool (bneT (c247)),trivial⟩ ?_
      refine XA_pureC (fuel':=2) [15] [] [undef] (tf 16 2) [(160,undef)] [155,159] (fun w_=>[]) (fun w_=>trivial) ?_
      refine XA_pureC (fuel':=0) [16,17] [] [undef,bT] (tf 18 0) [(162,bT)] [154,160] (fun w_=>[]) (fun w_=>trivial) ?_
      refine XA_done (by kernel_rfl) ?_
      refine XI_cond true rfl ?_
      refine XI_seq ?_
      refine XI_region (by kernel_rfl) (fun _ _ h_=>h_) ?_
      refine xst bF (Blk.below hk4_ b245) 0 #[bF] (fun w329 g330 k331 z332=>?_)
      refine nl (XI_ret ?_)
      exact⟨(KeepsFrom.trans (keeps_below b245) (keeps_store (Blk.below hk4_ b245) g330)),.inl ⟨rfl,fun h_=>by have h1_:=LOK.last h_; have h2_:=h1_.1; have h3_:=h1_.2.1; omega⟩⟩
     ·rintro D344 pre_ M_ w343 D345 S346 ⟨hk22_,hk21_,hk3_,hk12_,hk4_,hM_,hBw_⟩ K347
      have hg22l_:=hk22_.lt
      have hall_:=S346.2
      have hds348:Defs (D344::ds) w343:=Defs.cons K347 (Defs.below hBw_ hds)
      have hdn349:(D344::ds).Nodup:=List.nodup_cons.2 ⟨fun hm_=>by have h_:=Defs.lt hds _ hm_; omega,hdn⟩
      have hlt_:=(HB).size
      have hdge350:∀ D_∈D344::ds,w180.heap.size≤D_:=fun D_ hm_=>(List.mem_cons.1 hm_).elim (fun e_=>by omega) (hdge D_)
      refine sg (xe 3 [(184,.load (i6 (pre_.length:Int))),(185,.load (aL A50 ls52 c51))] [(3,pw w.heap.size 0),(4,pw w1.heap.size 0),(12,pw w56.heap.size 0),(20,.func (.func 109) #[] #[pw g159 0]),(21,pw g21v 0),(22,pw wl.heap.size 0),(184,i6 (pre_.length:Int)),(186,i6 (ls52.length:Int)),(1000000,encD (D344::ds))] [_,_] ⟨lc 3 hk22_ 0,lc 66 hk12_ 0,trivial⟩ ?_)
      by_cases c351:(pre_.length:Int)<(ls52.length:Int)
      ·exfalso; omega
      refine xr1 10 [(187,.eq bF)] [(196,bF)] [22,184,186] (dF c351) ?_
      refine nl (cf (sk (sq (sg (xr1 1 [(197,.load (i6 (t:Int)))] [(197,nv t)] [21,196] (lc 3 hk21_ 0) ?_)))))
      refine nl (rg (xw 1 [] [(21,pw w343.heap.size 0)] [] (w343.alloc (.cells #[i6 0] 3)) [] trivial ?_))
      obtain⟨w352,w356,b353,k354,z355⟩:=new_world w343 #[i6 0] 3
      rw[w356]
      refine xst (i6 (t:Int)) k354 0 #[i6 (t:Int)] (fun w357 g358 k359 z360=>?_)
      refine nl (rg (xr 2 [(140,.load (i6 (t:Int))),(141,.eq (i6 ((t:Int)+1)))] [(141,i6 ((t:Int)+1))] [197] [_,_] ⟨lc 3 k359 0,w6 ((t:Int)+1),trivial⟩ ?_))
      refine xst (i6 ((t:Int)+1)) k359 0 #[i6 ((t:Int)+1)] (fun w365 g366 k367 z368=>?_)
      refine nl ?_
      have B371:Below w180.heap.size w180 w365:=(bg (bg (bt (bt HB hBw_) b353) g358 ((bt HB hBw_)).size) g366 ((bt HB hBw_)).size)
      refine⟨(t+1,(D344::ds),w343.heap.size),by kernel_rfl,?_,?_⟩
      ·have hx8:=k367
       exact⟨by omega,hx8,B371,(Defs.store k359 g366 (Defs.store k354 g358 (Defs.below b353 hds348))),hdn349,hdge350⟩
      (try dsimp only); omega
     rintro D373 c_ pre_ w372 D374 S375 hix_ K376
     rcases hix_ with ⟨rfl,hno_⟩|⟨rfl,ht0_,hst_,M_,hk22_,hk21_,hk3_,hk12_,hk4_,hM_,hBw_⟩
     ·exact absurd S375 hno_
     have htr_:=True.intro
     have hg22l_:=hk22_.lt
     have hds377:Defs (D373::ds) w372:=Defs.cons K376 (Defs.below hBw_ hds)
     have hdn378:(D373::ds).Nodup:=List.nodup_cons.2 ⟨fun hm_=>by have h_:=Defs.lt hds _ hm_; omega,hdn⟩
     have hlt_:=(HB).size
     have hdge379:∀ D_∈D373::ds,w180.heap.size≤D_:=fun D_ hm_=>(List.mem_cons.1 hm_).elim (fun e_=>by omega) (hdge D_)
     refine X_exit (sg (xe 3 [(184,.load (i6 (pre_.length:Int))),(185,.load (aL A50 ls52 c51))] [(3,pw w.heap.size 0),(4,pw w1.heap.size 0),(12,pw w56.heap.size 0),(20,.func (.func 109) #[] #[pw g159 0]),(21,pw g21v 0),(22,pw wl.heap.size 0),(184,i6 (pre_.length:Int)),(186,i6 (ls52.length:Int)),(1000000,encD (D373::ds))] [_,_] ⟨lc 3 hk22_ 0,lc 66 hk12_ 0,trivial⟩ ?_))
     by_cases c380:(pre_.length:Int)<(ls52.length:Int)
     ·refine xr 3 [(187,.eq bT),(189,.load (i6 (t:Int)))] [(188,bT),(189,nv t)] [184,186] [_,_] ⟨dT c380,lc 3 hk21_ 0,trivial⟩ ?_
      by_cases c381:(t:Int)=1
      ·exfalso; omega
      refine xr 4 [(190,.eq bF),(192,.load (i6 (pre_.length:Int))),(193,.load (i6 stop))] [(191,bF),(192,i6 (pre_.length:Int)),(193,i6 stop)] [22,189] [_,_,_] ⟨bN c381,lc 3 hk22_ 0,lc 3 hk3_ 0,trivial⟩ ?_
      by_cases c382:(pre_.length:Int)≤stop
      ·exfalso; omega
      refine xr1 3 [(194,.eq bF)] [(196,bF)] [188,191,192,193] (dF c382) ?_
      refine nl (cf (sk (sq (sg (xr1 1 [(197,.load (i6 (t:Int)))] [(197,nv t)] [21,196] (lc 3 hk21_ 0) ?_)))))
      refine nl (rg (xw 1 [] [(21,pw w372.heap.size 0)] [] (w372.alloc (.cells #[i6 0] 3)) [] trivial ?_))
      obtain⟨w383,w387,b384,k385,z386⟩:=new_world w372 #[i6 0] 3
      rw[w387]
      refine xst (i6 (t:Int)) k385 0 #[i6 (t:Int)] (fun w388 g389 k390 z391=>?_)
      refine nl (rg (xe 2 [(140,.load (i6 (t:Int))),(141,.eq (i6 ((t:Int)+1)))] [(3,pw w.heap.size 0),(4,pw w1.heap.size 0),(12,pw w56.heap.size 0),(20,.func (.func 109) #[] #[pw g159 0]),(21,pw w372.heap.size 0),(141,i6 ((t:Int)+1)),(1000000,encD (D373::ds))] [_,_] ⟨lc 3 k390 0,w6 ((t:Int)+1),trivial⟩ ?_))
      refine xst (i6 ((t:Int)+1)) k390 0 #[i6 ((t:Int)+1)] (fun w396 g397 k398 z399=>?_)
      refine nl ?_
      have B402:Below w180.heap.size w180 w396:=(bg (bg (bt (bt HB hBw_) b384) g389 ((bt HB hBw_)).size) g397 ((bt HB hBw_)).size)
      refine⟨(t+1,(D373::ds),w372.heap.size),by kernel_rfl,?_,?_⟩
      ·have hx8:=k398
       exact⟨by omega,hx8,B402,(Defs.store k390 g397 (Defs.store k385 g389 (Defs.below b384 hds377))),hdn378,hdge379⟩
      (try dsimp only); omega
     refine xr1 10 [(187,.eq bF)] [(196,bF)] [22,184,186] (dF c380) ?_
     refine nl (cf (sk (sq (sg (xr1 1 [(197,.load (i6 (t:Int)))] [(197,nv t)] [21,196] (lc 3 hk21_ 0) ?_)))))
     refine nl (rg (xw 1 [] [(21,pw w372.heap.size 0)] [] (w372.alloc (.cells #[i6 0] 3)) [] trivial ?_))
     obtain⟨w403,w407,b404,k405,z406⟩:=new_world w372 #[i6 0] 3
     rw[w407]
     refine xst (i6 (t:Int)) k405 0 #[i6 (t:Int)] (fun w408 g409 k410 z411=>?_)
     refine nl (rg (xr 2 [(140,.load (i6 (t:Int))),(141,.eq (i6 ((t:Int)+1)))] [(141,i6 ((t:Int)+1))] [197] [_,_] ⟨lc 3 k410 0,w6 ((t:Int)+1),trivial⟩ ?_))
     refine xst (i6 ((t:Int)+1)) k410 0 #[i6 ((t:Int)+1)] (fun w416 g417 k418 z419=>?_)
     refine nl ?_
     have B422:Below w180.heap.size w180 w416:=(bg (bg (bt (bt HB hBw_) b404) g409 ((bt HB hBw_)).size) g417 ((bt HB hBw_)).size)
     refine⟨(t+1,(D373::ds),w372.heap.size),by kernel_rfl,?_,?_⟩
     ·have hx8:=k418
      exact⟨by omega,hx8,B422,(Defs.store k410 g417 (Defs.store k405 g409 (Defs.below b404 hds377))),hdn378,hdge379⟩
     (try dsimp only); omega
    refine xr1 1 [(139,.eq bF)] [(139,bF)] [138] (dF c193) ?_
    refine nl (cf (X_exit (sg (xst bT (Blk.below k186 HB) 0 #[bT] (fun w423 g424 k425 z426=>?_)))))
    refine nl (X_ret (RX.retM_cell (P:=Tryz.prog) (fn:=Tryz.f5) (N:=198) (R:=R_) (c:=4) (t:=4) (p:=⟨w1.heap.size,0,none⟩) (v:=bT) (ds:=ds) (dsOf_enc (by kernel_rfl)) hdn (Defs.store (Blk.below k186 HB) g424 hds) rfl rfl k425 (fun w_ hb_=>loads1 rfl (Blk.cell hb_ 0 _ rfl)) (fun w_ ho_=>hR_ _ _ ?_)))
    have B439:Below w.heap.size w w173:=(bt (bt (bt B167 b169) b171) b174)
    have B440:Below w.heap.size w w423:=(bg (bt (bg (bt (bt (bt (bt B167 b169) b171) b174) b176) g181 (B439).size) HB) g424 (b2).size)
    have B441:Below w.heap.size w w180:=(bg (bt B439 b176) g181 (B439).size)
    exact⟨rfl,Off.below ho_ B440 (fun D_ hm_=>Nat.le_trans (B441).size (hdge D_ hm_))⟩
   refine xe 2 [(84,.eq bT)] [(3,pw w.heap.size 0),(4,pw w1.heap.size 0),(5,pw d 0),(6,aL A28 (B.can xs) c29),(8,aL A33 ls35 c34),(10,aL A42 ls44 c43),(12,pw w56.heap.size 0),(85,bT),(1000000,encD [])] [Value.bool (!(if isDoc (B.can xs)=true then lnText (cellsAll (B.can xs))else ByteArray.empty).toList==(if isDoc (B.can xs)=true then lnText (cellsAll (B.can xs))else ByteArray.empty).toList)=bT] ⟨congrArg Value.bool (strNeT (c90)),trivial⟩ ?_
   refine nl (ct (sq (X_region ?_)))
   have B446:Below w63.heap.size w63 w88:=(bt (bt (bt (bt b79 b81) b83) b86) b89)
   refine xst bF (Blk.below k72 B446) 0 #[bF] (fun w442 g443 k444 z445=>?_)
   refine nl (X_ret (RX.retM_cell (P:=Tryz.prog) (fn:=Tryz.f5) (N:=198) (R:=R_) (c:=4) (t:=4) (p:=⟨w1.heap.size,0,none⟩) (v:=bF) (ds:=[]) (dsOf_enc (by kernel_rfl)) List.nodup_nil (Defs.store (Blk.below k72 B446) g443 (Defs.below b89 (Defs.below b86 (Defs.below b83 (Defs.below b81 (Defs.below b79 (Defs.store k60 g64 (Defs.below b59 (Defs.below b57 (Defs.below b49 (Defs.below b41 (Defs.below b24 (Defs.below b14 (Defs.below b12 (Defs.below b7 (Defs.below b2 (fun _ h_=>by cases h_))))))))))))))))) rfl rfl k444 (fun w_ hb_=>loads1 rfl (Blk.cell hb_ 0 _ rfl)) (fun w_ ho_=>hR_ _ _ ?_)))
   exfalso; first|omega|(simp at *; done)|(simp at *; omega)
  refine xr1 18 [(68,.eq bT)] [(85,bT)] [14,15,16,17,66,67] (nT c84) ?_
  refine nl (ct (sg (xst bF (Blk.below k72 (bt (bt b79 b81) b83)) 0 #[bF] (fun w454 g455 k456 z457=>?_))))
  refine nl (X_ret (RX.retM_cell (P:=Tryz.prog) (fn:=Tryz.f5) (N:=198) (R:=R_) (c:=4) (t:=4) (p:=⟨w1.heap.size,0,none⟩) (v:=bF) (ds:=[]) (dsOf_enc (by kernel_rfl)) List.nodup_nil (Defs.store (Blk.below k72 (bt (bt b79 b81) b83)) g455 (Defs.below b83 (Defs.below b81 (Defs.below b79 (Defs.store k60 g64 (Defs.below b59 (Defs.below b57 (Defs.below b49 (Defs.below b41 (Defs.below b24 (Defs.below b14 (Defs.below b12 (Defs.below b7 (Defs.below b2 (fun _ h_=>by cases h_))))))))))))))) rfl rfl k456 (fun w_ hb_=>loads1 rfl (Blk.cell hb_ 0 _ rfl)) (fun w_ ho_=>hR_ _ _ ?_)))
  exfalso; first|omega|(simp at *; done)|(simp at *; omega)
 refine⟨_,rfl,?_⟩
 refine xr0 7 [(5,.pointer none),(6,.slice none 0 0),(7,bF)] [31,32] ?_
 refine nl (sq (sg (xe0 2 [(3,pw w.heap.size 0),(4,pw w1.heap.size 0),(5,.pointer none),(6,.slice none 0 0),(37,bT),(1000000,encD [])] ?_)))
 refine nl (ct (sg (xst bT (Blk.below k8 (bt (bt b12 b14) b24)) 0 #[bT] (fun w465 g466 k467 z468=>?_))))
 refine nl (X_ret (RX.retM_cell (P:=Tryz.prog) (fn:=Tryz.f5) (N:=198) (R:=R_) (c:=4) (t:=4) (p:=⟨w1.heap.size,0,none⟩) (v:=bT) (ds:=[]) (dsOf_enc (by kernel_rfl)) List.nodup_nil (Defs.store (Blk.below k8 (bt (bt b12 b14) b24)) g466 (Defs.below b24 (Defs.below b14 (Defs.below b12 (Defs.below b7 (Defs.below b2 (fun _ h_=>by cases h_))))))) rfl rfl k467 (fun w_ hb_=>loads1 rfl (Blk.cell hb_ 0 _ rfl)) (fun w_ ho_=>hR_ _ _ ?_)))
 have B471:Below w.heap.size w w465:=(bg (bt (bt (bt (bt b2 b7) b12) b14) b24) g466 (b2).size)
 exact⟨rfl,Off.below ho_ B471 (fun D_ hm_=>by cases hm_)⟩
end Go.Proofs.YtgphmfnkeolbcaaGreatDoor
