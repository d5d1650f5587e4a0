import Derived.Test.YtlnnjfdonilgmaaGreatDoorNb
import Derived.Test.YtlnnjfdonilgmaaGreatDoorO3
import Derived.Test.YtlnnjfdonilgmaaGreatDoorK11
/- vellumref08: Base, Result, Inserted, Deleted; vellumlaw23.near. Conditions: sizes. -/
set_option linter.unusedVariables false
set_option linter.unusedSimpArgs false
set_option maxRecDepth 100000
namespace Go.Proofs.YtlnnjfdonilgmaaGreatDoor
open Go Go.RowKit Go.Proofs.YtlnnjfdonilgmaaGreatDoorW.PrintWords RX
theorem ent13 :Ent Tryz.prog 13:=ent_of Tryz.func13 (by kernel_rfl) rfl
theorem ent14 :Ent Tryz.prog 14:=ent_of Tryz.func14 (by kernel_rfl) rfl
theorem ent18 :Ent Tryz.prog 18:=ent_of Tryz.func18 (by kernel_rfl) rfl
theorem ent19 :Ent Tryz.prog 19:=ent_of Tryz.func19 (by kernel_rfl) rfl
theorem ent20 :Ent Tryz.prog 20:=ent_of Tryz.func20 (by kernel_rfl) rfl
theorem r8base_any (A:Option Addr)(c:Nat)(xs:List OpA)(w:World)(hx:kOp.C w A xs.length xs)(hn:xs.length≤1100000)(hz:∀ i,i<xs.length→opSz (xs.getD i op0))(hT:Tabs w):Rt 13 #[.slice A xs.length c] w (i6 (lenP xs).1):=by
 refine en Tryz.func13 rfl 13 [(0,aL A xs c)] (fun R_ hR_=>?_)
 refine sg (xe0 1 [(0,aL A xs c)] ?_)
 refine nl (sg (xe0 1 [(7,aL A xs c)] ?_))
 refine xc 33 ent33 [aL A xs c] (r5lens_any _ _ xs _ hx (by omega) hz (hT.below (Below.refl _ _))) ?_
 rintro e w1 ⟨rfl,b2⟩; refine⟨_,rfl,?_⟩
 refine xe0 7 [(3,i6 ((lenP xs).1))] ?_
 refine nl (sg (xe0 2 [(2,i6 ((lenP xs).1))] ?_))
 refine nl (X_ret (rj [i6 ((lenP xs).1)] hR_ ?_))
 exact⟨rfl,b2⟩
theorem r8result_any (A:Option Addr)(c:Nat)(xs:List OpA)(w:World)(hx:kOp.C w A xs.length xs)(hn:xs.length≤1100000)(hz:∀ i,i<xs.length→opSz (xs.getD i op0))(hT:Tabs w):Rt 14 #[.slice A xs.length c] w (i6 (lenP xs).2.1):=by
 refine en Tryz.func14 rfl 13 [(0,aL A xs c)] (fun R_ hR_=>?_)
 refine sg (xe0 1 [(0,aL A xs c)] ?_)
 refine nl (sg (xe0 1 [(7,aL A xs c)] ?_))
 refine xc 33 ent33 [aL A xs c] (r5lens_any _ _ xs _ hx (by omega) hz (hT.below (Below.refl _ _))) ?_
 rintro e w1 ⟨rfl,b2⟩; refine⟨_,rfl,?_⟩
 refine xe0 7 [(4,i6 ((lenP xs).2.1))] ?_
 refine nl (sg (xe0 2 [(2,i6 ((lenP xs).2.1))] ?_))
 refine nl (X_ret (rj [i6 ((lenP xs).2.1)] hR_ ?_))
 exact⟨rfl,b2⟩
set_option maxHeartbeats 1000000 in
theorem r8ins_any (A:Option Addr)(c:Nat)(xs:List OpA)(w:World)(hx:kOp.C w A xs.length xs)(hn:xs.length≤1100000)(hz:∀ i,i<xs.length→opSz (xs.getD i op0))(hb:badE xs=0)(hB:sB xs≤1099511627776)(hR:sR xs≤1099511627776):Rt 18 #[.slice A xs.length c] w (i6 (sumI insF xs)):=by
 refine en Tryz.func18 rfl 33 [(0,aL A xs c)] (fun R_ hR_=>?_)
 refine sg (xe0 1 [(0,aL A xs c)] ?_)
 refine nl (sg (xr0 1 [(3,i6 0)] [] ?_))
 refine nl (sq (sg (xr0 1 [(4,i6 0)] [] ?_)))
 refine nl (bk (X_loop (ι:=Nat×Int) (fun⟨i,g⟩=>[(0,aL A xs c),(3,i6 g),(4,i6 (i:Int))]) (fun⟨i,g⟩ wl=>i≤xs.length∧g=sumI insF (xs.take i)∧Below w.heap.size w wl) (fun⟨i,g⟩=>xs.length-i) (0,0) ⟨Nat.zero_le _,rfl,Below.refl _ _⟩ (by kernel_rfl) ?_))
 rintro⟨i,g⟩ wl ⟨hi,hg_,HB⟩
 have hbd_:=ins_bd hb hz i
 have hbe_:=fun(h_:i<xs.length)=>ins_bd hb hz (i+1)
 have htk_:=fun(h_:i<xs.length)=>sumI_take insF xs i h_
 refine sq (sg (xr0 3 [(5,nv i),(7,i6 (xs.length:Int))] [] ?_))
 by_cases c1:(i:Int)<(xs.length:Int)
 ·refine xr1 1 [(8,.eq bT)] [(8,bT)] [5,7] (dT c1) ?_
  refine nl (ct (sk (sq (bk (sg (xr0 2 [(11,aL A xs c),(12,nv i)] [8] ?_))))))
  obtain⟨ad2,B5,c6,a3,c4,l7,C8⟩:=Kd.atOp (Kd.C_below hx HB) (i:=(i:Int)) (by omega) (by omega)
  replace c4:CellsAt wl (ad2.add ((i:Int).toNat*7)) (o7L (xs.getD i op0) (aL B5 (xs.getD i op0).attrs c6)):=c4
  replace l7:(xs.getD i op0).attrs.length≤c6:=l7
  replace C8:kAttr.C wl B5 ((xs.getD i op0).attrs.length) (xs.getD i op0).attrs:=C8
  refine xr 3 [(13,.idx ad2),(15,.load (i6 ((xs.getD i op0).kind)))] [(15,i6 ((xs.getD i op0).kind))] [11,12] [A=some ad2,(0:Int)≤(i:Int),(i:Int)<(xs.length:Int),la 3 (ad2.add ((i:Int).toNat*7)) (i6 ((xs.getD i op0).kind)) wl] ⟨a3,(by omega),(by omega),loads1 rfl (elem_cell c4 0 _ rfl),trivial⟩ ?_
  by_cases c9:(xs.getD i op0).kind=1
  ·refine xr1 9 [(16,.eq bT)] [(24,bT)] [15] (bE c9) ?_
   refine nl (ct (rg (xe0 3 [(0,aL A xs c),(4,nv i),(25,i6 g),(26,aL A xs c),(27,nv i)] ?_)))
   obtain⟨ad10,B13,c14,a11,c12,l15,C16⟩:=Kd.atOp (Kd.C_below hx HB) (i:=(i:Int)) (by omega) (by omega)
   replace c12:CellsAt wl (ad10.add ((i:Int).toNat*7)) (o7L (xs.getD i op0) (aL B13 (xs.getD i op0).attrs c14)):=c12
   replace l15:(xs.getD i op0).attrs.length≤c14:=l15
   replace C16:kAttr.C wl B13 ((xs.getD i op0).attrs.length) (xs.getD i op0).attrs:=C16
   refine xr 2 [(28,.idx ad10),(29,.load (.agg (o7A (xs.getD i op0) (aL B13 (xs.getD i op0).attrs c14))))] [(29,.agg (o7A (xs.getD i op0) (aL B13 (xs.getD i op0).attrs c14)))] [26,27] [A=some ad10,(0:Int)≤(i:Int),(i:Int)<(xs.length:Int),la 70 (ad10.add ((i:Int).toNat*7)) (.agg (o7A (xs.getD i op0) (aL B13 (xs.getD i op0).attrs c14))) wl] ⟨a11,(by omega),(by omega),loadsE rfl rfl c12 0 ⟨by kernel_rfl,by kernel_rfl⟩,trivial⟩ ?_
   refine xc 36 ent36 [.agg (o7A (xs.getD i op0) (aL B13 (xs.getD i op0).attrs c14))] (r5len_any (xs.getD i op0) _ _ _ C16 (hz i (by omega))) ?_
   rintro e w17 ⟨rfl,b18⟩; refine⟨_,rfl,?_⟩
   refine xr 2 [(31,.eq (i6 (g+(opLen (xs.getD i op0)))))] [(3,i6 (g+(opLen (xs.getD i op0))))] [25,29,30] [i6 (IntKind.i64.wrap (g+(opLen (xs.getD i op0))))=i6 (g+(opLen (xs.getD i op0)))] ⟨wr_i64 (by have h1_:=htk_ (by omega); have h2_:=hbe_ (by omega); unfold insF at *; first|(rw[if_pos (by first|assumption|(left; assumption)|(right; assumption))]at h1_; omega)|omega) (by have h1_:=htk_ (by omega); have h2_:=hbe_ (by omega); unfold insF at *; first|(rw[if_pos (by first|assumption|(left; assumption)|(right; assumption))]at h1_; omega)|omega),trivial⟩ ?_
   refine nl (rg (xr1 3 [(10,.eq (i6 ((i:Int)+1)))] [(4,i6 ((i:Int)+1))] [] (w6 ((i:Int)+1)) ?_))
   refine nl ?_
   refine⟨(i+1,g+(opLen (xs.getD i op0))),by kernel_rfl,?_,?_⟩
   ·have h1_:=htk_ (by omega)
    unfold insF at*
    rw[if_pos (.inl c9)]at h1_
    exact⟨by omega,by omega,(bt HB b18)⟩
   (try dsimp only); omega
  refine xr1 4 [(16,.eq bF)] [(17,bF),(18,aL A xs c),(19,nv i)] [15] (bN c9) ?_
  obtain⟨ad19,B22,c23,a20,hc21,l24,C25⟩:=Kd.atOp (Kd.C_below hx HB) (i:=(i:Int)) (by omega) (by omega)
  replace hc21:CellsAt wl (ad19.add ((i:Int).toNat*7)) (o7L (xs.getD i op0) (aL B22 (xs.getD i op0).attrs c23)):=hc21
  replace l24:(xs.getD i op0).attrs.length≤c23:=l24
  replace C25:kAttr.C wl B22 ((xs.getD i op0).attrs.length) (xs.getD i op0).attrs:=C25
  refine xe 3 [(20,.idx ad19),(22,.load (i6 ((xs.getD i op0).kind)))] [(0,aL A xs c),(3,i6 g),(4,nv i),(17,bF),(22,i6 ((xs.getD i op0).kind))] [A=some ad19,(0:Int)≤(i:Int),(i:Int)<(xs.length:Int),la 3 (ad19.add ((i:Int).toNat*7)) (i6 ((xs.getD i op0).kind)) wl] ⟨a20,(by omega),(by omega),loads1 rfl (elem_cell hc21 0 _ rfl),trivial⟩ ?_
  by_cases c26:(xs.getD i op0).kind=2
  ·refine xr1 2 [(23,.eq bT)] [(24,bT)] [17,22] (bE c26) ?_
   refine nl (ct (rg (xr0 3 [(25,i6 g),(26,aL A xs c),(27,nv i)] [3,24] ?_)))
   obtain⟨ad27,B30,c31,a28,c29,l32,C33⟩:=Kd.atOp (Kd.C_below hx HB) (i:=(i:Int)) (by omega) (by omega)
   replace c29:CellsAt wl (ad27.add ((i:Int).toNat*7)) (o7L (xs.getD i op0) (aL B30 (xs.getD i op0).attrs c31)):=c29
   replace l32:(xs.getD i op0).attrs.length≤c31:=l32
   replace C33:kAttr.C wl B30 ((xs.getD i op0).attrs.length) (xs.getD i op0).attrs:=C33
   refine xr 2 [(28,.idx ad27),(29,.load (.agg (o7A (xs.getD i op0) (aL B30 (xs.getD i op0).attrs c31))))] [(29,.agg (o7A (xs.getD i op0) (aL B30 (xs.getD i op0).attrs c31)))] [26,27] [A=some ad27,(0:Int)≤(i:Int),(i:Int)<(xs.length:Int),la 70 (ad27.add ((i:Int).toNat*7)) (.agg (o7A (xs.getD i op0) (aL B30 (xs.getD i op0).attrs c31))) wl] ⟨a28,(by omega),(by omega),loadsE rfl rfl c29 0 ⟨by kernel_rfl,by kernel_rfl⟩,trivial⟩ ?_
   refine xc 36 ent36 [.agg (o7A (xs.getD i op0) (aL B30 (xs.getD i op0).attrs c31))] (r5len_any (xs.getD i op0) _ _ _ C33 (hz i (by omega))) ?_
   rintro e w34 ⟨rfl,b35⟩; refine⟨_,rfl,?_⟩
   refine xr 2 [(31,.eq (i6 (g+(opLen (xs.getD i op0)))))] [(3,i6 (g+(opLen (xs.getD i op0))))] [25,29,30] [i6 (IntKind.i64.wrap (g+(opLen (xs.getD i op0))))=i6 (g+(opLen (xs.getD i op0)))] ⟨wr_i64 (by have h1_:=htk_ (by omega); have h2_:=hbe_ (by omega); unfold insF at *; first|(rw[if_pos (by first|assumption|(left; assumption)|(right; assumption))]at h1_; omega)|omega) (by have h1_:=htk_ (by omega); have h2_:=hbe_ (by omega); unfold insF at *; first|(rw[if_pos (by first|assumption|(left; assumption)|(right; assumption))]at h1_; omega)|omega),trivial⟩ ?_
   refine nl (rg (xr1 3 [(10,.eq (i6 ((i:Int)+1)))] [(4,i6 ((i:Int)+1))] [] (w6 ((i:Int)+1)) ?_))
   refine nl ?_
   refine⟨(i+1,g+(opLen (xs.getD i op0))),by kernel_rfl,?_,?_⟩
   ·have h1_:=htk_ (by omega)
    unfold insF at*
    rw[if_pos (.inr c26)]at h1_
    exact⟨by omega,by omega,(bt HB b35)⟩
   (try dsimp only); omega
  refine xr1 2 [(23,.eq bF)] [(24,bF)] [17,22] (bN c26) ?_
  refine nl (cf (sk (rg (xr1 3 [(10,.eq (i6 ((i:Int)+1)))] [(4,i6 ((i:Int)+1))] [24] (w6 ((i:Int)+1)) ?_))))
  refine nl ?_
  refine⟨(i+1,g),by kernel_rfl,?_,?_⟩
  ·have h1_:=htk_ (by omega)
   unfold insF at*
   rw[if_neg (by rintro(h2_|h2_); (· exact c9 h2_); (· exact c26 h2_))]at h1_
   exact⟨by omega,by omega,HB⟩
  (try dsimp only); omega
 refine xr1 1 [(8,.eq bF)] [(8,bF)] [5,7] (dF c1) ?_
 refine nl (cf (X_exit (sg (xe0 2 [(2,i6 g)] ?_))))
 refine nl (X_ret (rj [i6 g] hR_ ?_))
 have hxi:xs.take i=xs:=List.take_of_length_le (by omega)
 rw[hg_,hxi]
 exact⟨rfl,HB⟩
set_option maxHeartbeats 1000000 in
theorem r8del_any (A:Option Addr)(c:Nat)(xs:List OpA)(w:World)(hx:kOp.C w A xs.length xs)(hn:xs.length≤1100000)(hz:∀ i,i<xs.length→opSz (xs.getD i op0))(hb:badE xs=0)(hB:sB xs≤1099511627776)(hR:sR xs≤1099511627776):Rt 19 #[.slice A xs.length c] w (i6 (sumI delF xs)):=by
 refine en Tryz.func19 rfl 25 [(0,aL A xs c)] (fun R_ hR_=>?_)
 refine sg (xe0 1 [(0,aL A xs c)] ?_)
 refine nl (sg (xr0 1 [(3,i6 0)] [] ?_))
 refine nl (sq (sg (xr0 1 [(4,i6 0)] [] ?_)))
 refine nl (bk (X_loop (ι:=Nat×Int) (fun⟨i,g⟩=>[(0,aL A xs c),(3,i6 g),(4,i6 (i:Int))]) (fun⟨i,g⟩ wl=>i≤xs.length∧g=sumI delF (xs.take i)∧Below w.heap.size w wl) (fun⟨i,g⟩=>xs.length-i) (0,0) ⟨Nat.zero_le _,rfl,Below.refl _ _⟩ (by kernel_rfl) ?_))
 rintro⟨i,g⟩ wl ⟨hi,hg_,HB⟩
 have hbd_:=ins_bd hb hz i
 have hbe_:=fun(h_:i<xs.length)=>ins_bd hb hz (i+1)
 have htk_:=fun(h_:i<xs.length)=>sumI_take delF xs i h_
 refine sq (sg (xr0 3 [(5,nv i),(7,i6 (xs.length:Int))] [] ?_))
 by_cases c1:(i:Int)<(xs.length:Int)
 ·refine xr1 1 [(8,.eq bT)] [(8,bT)] [5,7] (dT c1) ?_
  refine nl (ct (sk (sq (bk (sg (xr0 2 [(11,aL A xs c),(12,nv i)] [8] ?_))))))
  obtain⟨ad2,B5,c6,a3,c4,l7,C8⟩:=Kd.atOp (Kd.C_below hx HB) (i:=(i:Int)) (by omega) (by omega)
  replace c4:CellsAt wl (ad2.add ((i:Int).toNat*7)) (o7L (xs.getD i op0) (aL B5 (xs.getD i op0).attrs c6)):=c4
  replace l7:(xs.getD i op0).attrs.length≤c6:=l7
  replace C8:kAttr.C wl B5 ((xs.getD i op0).attrs.length) (xs.getD i op0).attrs:=C8
  refine xr 3 [(13,.idx ad2),(15,.load (i6 ((xs.getD i op0).kind)))] [(15,i6 ((xs.getD i op0).kind))] [11,12] [A=some ad2,(0:Int)≤(i:Int),(i:Int)<(xs.length:Int),la 3 (ad2.add ((i:Int).toNat*7)) (i6 ((xs.getD i op0).kind)) wl] ⟨a3,(by omega),(by omega),loads1 rfl (elem_cell c4 0 _ rfl),trivial⟩ ?_
  by_cases c9:(xs.getD i op0).kind=4
  ·refine xr1 1 [(16,.eq bT)] [(16,bT)] [15] (bE c9) ?_
   refine nl (ct (rg (xe0 3 [(0,aL A xs c),(4,nv i),(17,i6 g),(18,aL A xs c),(19,nv i)] ?_)))
   obtain⟨ad10,B13,c14,a11,c12,l15,C16⟩:=Kd.atOp (Kd.C_below hx HB) (i:=(i:Int)) (by omega) (by omega)
   replace c12:CellsAt wl (ad10.add ((i:Int).toNat*7)) (o7L (xs.getD i op0) (aL B13 (xs.getD i op0).attrs c14)):=c12
   replace l15:(xs.getD i op0).attrs.length≤c14:=l15
   replace C16:kAttr.C wl B13 ((xs.getD i op0).attrs.length) (xs.getD i op0).attrs:=C16
   refine xr 5 [(20,.idx ad10),(22,.load (i6 ((xs.getD i op0).count))),(23,.eq (i6 (g+((xs.getD i op0).count))))] [(3,i6 (g+((xs.getD i op0).count)))] [17,18,19] [A=some ad10,(0:Int)≤(i:Int),(i:Int)<(xs.length:Int),la 3 ((ad10.add ((i:Int).toNat*7)).add 5) (i6 ((xs.getD i op0).count)) wl,i6 (IntKind.i64.wrap (g+((xs.getD i op0).count)))=i6 (g+((xs.getD i op0).count))] ⟨a11,(by omega),(by omega),loads1 rfl (elem_cell c12 5 _ rfl),wr_i64 (by have h1_:=htk_ (by omega); have h2_:=hbe_ (by omega); unfold delF at *; first|(rw[if_pos (by first|assumption|(left; assumption)|(right; assumption))]at h1_; omega)|omega) (by have h1_:=htk_ (by omega); have h2_:=hbe_ (by omega); unfold delF at *; first|(rw[if_pos (by first|assumption|(left; assumption)|(right; assumption))]at h1_; omega)|omega),trivial⟩ ?_
   refine nl (rg (xr1 3 [(10,.eq (i6 ((i:Int)+1)))] [(4,i6 ((i:Int)+1))] [] (w6 ((i:Int)+1)) ?_))
   refine nl ?_
   refine⟨(i+1,g+((xs.getD i op0).count)),by kernel_rfl,?_,?_⟩
   ·have h1_:=htk_ (by omega)
    unfold delF at*
    rw[if_pos (c9)]at h1_
    exact⟨by omega,by omega,HB⟩
   (try dsimp only); omega
  refine xr1 1 [(16,.eq bF)] [(16,bF)] [15] (bN c9) ?_
  refine nl (cf (sk (rg (xe1 3 [(10,.eq (i6 ((i:Int)+1)))] [(0,aL A xs c),(3,i6 g),(4,i6 ((i:Int)+1))] (w6 ((i:Int)+1)) ?_))))
  refine nl ?_
  refine⟨(i+1,g),by kernel_rfl,?_,?_⟩
  ·have h1_:=htk_ (by omega)
   unfold delF at*
   rw[if_neg (c9)]at h1_
   exact⟨by omega,by omega,HB⟩
  (try dsimp only); omega
 refine xr1 1 [(8,.eq bF)] [(8,bF)] [5,7] (dF c1) ?_
 refine nl (cf (X_exit (sg (xe0 2 [(2,i6 g)] ?_))))
 refine nl (X_ret (rj [i6 g] hR_ ?_))
 have hxi:xs.take i=xs:=List.take_of_length_le (by omega)
 rw[hg_,hxi]
 exact⟨rfl,HB⟩
theorem opLen_nn {o:OpA}(h:pErr o=0):0≤opLen o:=by
 have h1:=opB_ok h
 have h2:=opR_ok h
 rw[opB_is]at h1
 rw[opR_is]at h2
 by_cases h4:o.kind=4
 ·rw[if_pos (.inr h4)]at h1; exact h1
 rw[if_neg h4]at h2; exact h2
theorem nn_take {xs:List OpA}(h:badE xs=0)(i:Nat):0≤sB (xs.take i)∧0≤sR (xs.take i):=⟨sumI_nonneg fun o ho=>opB_ok (badE_mem.1 h o (List.mem_of_mem_take ho)),sumI_nonneg fun o ho=>opR_ok (badE_mem.1 h o (List.mem_of_mem_take ho))⟩
set_option maxHeartbeats 2000000 in
theorem near_any (A:Option Addr)(c:Nat)(xs:List OpA)(w:World)(hx:kOp.C w A xs.length xs)(hn:xs.length≤1100000)(hz:∀ i,i<xs.length→opSz (xs.getD i op0))(p:Int)(hb:badE xs=0)(hB:sB xs≤1099511627776)(hR:sR xs≤1099511627776)(hp0:0≤p)(hp1:p≤1099511627776):Rt 20 #[.slice A xs.length c,i6 p] w (.tuple #[i6 (nrP p (xs.map pelO) 0 0).1,.bool (nrP p (xs.map pelO) 0 0).2]):=by
 have hok_:=badE_mem.1 hb
 refine en Tryz.func20 rfl 58 [(0,aL A xs c),(1,i6 p)] (fun R_ hR_=>?_)
 refine sg (xe0 2 [(0,aL A xs c),(1,i6 p)] ?_)
 refine nl (sg (xr0 2 [(6,i6 0),(7,i6 0)] [] ?_))
 refine nl (sq (sg (xr0 3 [(11,aL A xs c),(12,i6 (xs.length:Int)),(13,i6 0)] [0] ?_)))
 refine nl (bk (X_loop (ι:=Nat×Int×Int) (fun⟨i,g,o⟩=>[(1,i6 p),(6,i6 g),(7,i6 o),(11,aL A xs c),(12,i6 (xs.length:Int)),(13,i6 (i:Int))]) (fun⟨i,g,o⟩ wl=>i≤xs.length∧g=sB (xs.take i)∧o=sR (xs.take i)∧nrP p ((xs.map pelO).drop i) g o=nrP p (xs.map pelO) 0 0∧Below w.heap.size w wl) (fun⟨i,g,o⟩=>xs.length-i) (0,0,0) ⟨Nat.zero_le _,rfl,rfl,rfl,Below.refl _ _⟩ (by kernel_rfl) ?_))
 rintro⟨i,g,o⟩ wl ⟨hi,hg_,ho_,hN_,HB⟩
 have htk_:=fun(h_:i<xs.length)=>And.intro (B.sB_take h_) (B.sR_take h_)
 have hle_:=sum_take_le hb i
 have hle2_:=sum_take_le hb (i+1)
 have hnn_:=nn_take hb i
 have hol_:=fun(h_:i<xs.length)=>opLen_nn (hok_ _ (getD_mem op0 h_))
 have hnr_:=fun(h_:i<xs.length)=>nr_at (xs:=xs) (i:=i) (p:=p) (gap:=g) (out:=o) h_
 refine sq (X_region ?_)
 by_cases c1:(i:Int)<(xs.length:Int)
 ·refine xr1 1 [(14,.eq bT)] [(14,bT)] [] (dT c1) ?_
  refine nl (sq (ct (sk (sq (bk (sq (X_region ?_)))))))
  obtain⟨ad2,B5,c6,a3,c4,l7,C8⟩:=Kd.atOp (Kd.C_below hx HB) (i:=(i:Int)) (by omega) (by omega)
  replace c4:CellsAt wl (ad2.add ((i:Int).toNat*7)) (o7L (xs.getD i op0) (aL B5 (xs.getD i op0).attrs c6)):=c4
  replace l7:(xs.getD i op0).attrs.length≤c6:=l7
  replace C8:kAttr.C wl B5 ((xs.getD i op0).attrs.length) (xs.getD i op0).attrs:=C8
  refine xw 3 [(15,.idx ad2),(16,.load (.agg (o7A (xs.getD i op0) (aL B5 (xs.getD i op0).attrs c6))))] [(9,pw wl.heap.size 0),(16,.agg (o7A (xs.getD i op0) (aL B5 (xs.getD i op0).attrs c6)))] [14] (wl.alloc (.cells #[i6 0,s0,i6 0,i6 0,s0,i6 0,.slice none 0 0] 70)) [A=some ad2,(0:Int)≤(i:Int),(i:Int)<(xs.length:Int),la 70 (ad2.add ((i:Int).toNat*7)) (.agg (o7A (xs.getD i op0) (aL B5 (xs.getD i op0).attrs c6))) wl] ⟨a3,(by omega),(by omega),loadsE rfl rfl c4 0 ⟨by kernel_rfl,by kernel_rfl⟩,trivial⟩ ?_
  obtain⟨w9,w13,b10,k11,z12⟩:=new_world wl #[i6 0,s0,i6 0,i6 0,s0,i6 0,.slice none 0 0] 70
  rw[w13]
  refine xst (.agg (o7A (xs.getD i op0) (aL B5 (xs.getD i op0).attrs c6))) k11 0 (o7A (xs.getD i op0) (aL B5 (xs.getD i op0).attrs c6)) (fun w14 g15 k16 z17=>?_)
  refine nl (sg (xr 1 [(17,.load (.agg (o7A (xs.getD i op0) (aL B5 (xs.getD i op0).attrs c6))))] [(17,.agg (o7A (xs.getD i op0) (aL B5 (xs.getD i op0).attrs c6)))] [16] [la 70 (⟨wl.heap.size,0,none⟩) (.agg (o7A (xs.getD i op0) (aL B5 (xs.getD i op0).attrs c6))) w14] ⟨loadsB rfl rfl k16 0 ⟨by kernel_rfl,by kernel_rfl⟩,trivial⟩ ?_))
  refine xc 36 ent36 [.agg (o7A (xs.getD i op0) (aL B5 (xs.getD i op0).attrs c6))] (r5len_any (xs.getD i op0) _ _ _ (Kd.C_below C8 (bg b10 g15 (Nat.le_refl _))) (hz i (by omega))) ?_
  rintro e w18 ⟨rfl,b19⟩; refine⟨_,rfl,?_⟩
  refine xr0 1 [(10,i6 (opLen (xs.getD i op0)))] [17,18] ?_
  refine nl (sg (xr1 2 [(20,.load (i6 ((xs.getD i op0).kind)))] [(20,i6 ((xs.getD i op0).kind))] [9] (lc 3 (Blk.below k16 b19) 0) ?_))
  refine nl (bk (sq (X_region ?_)))
  by_cases c20:(xs.getD i op0).kind=3
  ·refine xe1 2 [(25,.eq bT)] [(1,i6 p),(6,i6 g),(7,i6 o),(10,i6 (opLen (xs.getD i op0))),(11,aL A xs c),(12,i6 (xs.length:Int)),(13,nv i),(20,i6 ((xs.getD i op0).kind)),(24,bT)] (bE c20) ?_
   refine nl (ct (sq (sq (X_region ?_))))
   refine xr 4 [(29,.eq (i6 (g+(opLen (xs.getD i op0)))))] [(26,i6 p),(29,i6 (g+(opLen (xs.getD i op0))))] [20,24] [i6 (IntKind.i64.wrap (g+(opLen (xs.getD i op0))))=i6 (g+(opLen (xs.getD i op0)))] ⟨wr_i64 (by have h1_:=htk_ (by omega); rw[opB_is,opR_is]at h1_; have h2_:=hol_ (by omega); first|omega|(rw[if_pos (by omega),if_neg (by omega)]at h1_; omega)|(rw[if_pos (by omega),if_pos (by omega)]at h1_; omega)|(rw[if_neg (by omega),if_neg (by omega)]at h1_; omega)) (by have h1_:=htk_ (by omega); rw[opB_is,opR_is]at h1_; have h2_:=hol_ (by omega); first|omega|(rw[if_pos (by omega),if_neg (by omega)]at h1_; omega)|(rw[if_pos (by omega),if_pos (by omega)]at h1_; omega)|(rw[if_neg (by omega),if_neg (by omega)]at h1_; omega)),trivial⟩ ?_
   by_cases c21:p<g+(opLen (xs.getD i op0))
   ·refine xr1 1 [(30,.eq bT)] [(30,bT)] [26,29] (dT c21) ?_
    refine nl (ct (sq (X_region ?_)))
    refine xe 7 [(33,.eq (i6 (o+p))),(35,.eq (i6 ((o+p)-g)))] [(4,i6 ((o+p)-g)),(5,bT)] [i6 (IntKind.i64.wrap (o+p))=i6 (o+p),i6 (IntKind.i64.wrap ((o+p)-g))=i6 ((o+p)-g)] ⟨wr_i64 (by have h1_:=htk_ (by omega); rw[opB_is,opR_is]at h1_; have h2_:=hol_ (by omega); first|omega|(rw[if_pos (by omega),if_neg (by omega)]at h1_; omega)|(rw[if_pos (by omega),if_pos (by omega)]at h1_; omega)|(rw[if_neg (by omega),if_neg (by omega)]at h1_; omega)) (by have h1_:=htk_ (by omega); rw[opB_is,opR_is]at h1_; have h2_:=hol_ (by omega); first|omega|(rw[if_pos (by omega),if_neg (by omega)]at h1_; omega)|(rw[if_pos (by omega),if_pos (by omega)]at h1_; omega)|(rw[if_neg (by omega),if_neg (by omega)]at h1_; omega)),wr_i64 (by have h1_:=htk_ (by omega); rw[opB_is,opR_is]at h1_; have h2_:=hol_ (by omega); first|omega|(rw[if_pos (by omega),if_neg (by omega)]at h1_; omega)|(rw[if_pos (by omega),if_pos (by omega)]at h1_; omega)|(rw[if_neg (by omega),if_neg (by omega)]at h1_; omega)) (by have h1_:=htk_ (by omega); rw[opB_is,opR_is]at h1_; have h2_:=hol_ (by omega); first|omega|(rw[if_pos (by omega),if_neg (by omega)]at h1_; omega)|(rw[if_pos (by omega),if_pos (by omega)]at h1_; omega)|(rw[if_neg (by omega),if_neg (by omega)]at h1_; omega)),trivial⟩ ?_
    refine nl (X_ret (rj [i6 ((o+p)-g),bT] hR_ ?_))
    have hB22:Below w.heap.size w w18:=(bt (bg (bt HB b10) g15 (HB).size) b19)
    have h2_:=hnr_ (by omega)
    rw[if_pos c20,if_pos c21]at h2_
    rw[←hN_,h2_]
    exact⟨rfl,hB22⟩
   refine xr1 1 [(30,.eq bF)] [(30,bF)] [26,29] (dF c21) ?_
   refine nl (cf (sk (sq (X_region ?_))))
   refine xr 4 [(38,.eq (i6 (g+(opLen (xs.getD i op0)))))] [(6,i6 (g+(opLen (xs.getD i op0))))] [30] [i6 (IntKind.i64.wrap (g+(opLen (xs.getD i op0))))=i6 (g+(opLen (xs.getD i op0)))] ⟨wr_i64 (by have h1_:=htk_ (by omega); rw[opB_is,opR_is]at h1_; have h2_:=hol_ (by omega); first|omega|(rw[if_pos (by omega),if_neg (by omega)]at h1_; omega)|(rw[if_pos (by omega),if_pos (by omega)]at h1_; omega)|(rw[if_neg (by omega),if_neg (by omega)]at h1_; omega)) (by have h1_:=htk_ (by omega); rw[opB_is,opR_is]at h1_; have h2_:=hol_ (by omega); first|omega|(rw[if_pos (by omega),if_neg (by omega)]at h1_; omega)|(rw[if_pos (by omega),if_pos (by omega)]at h1_; omega)|(rw[if_neg (by omega),if_neg (by omega)]at h1_; omega)),trivial⟩ ?_
   refine nl (X_region ?_)
   refine xr 4 [(41,.eq (i6 (o+(opLen (xs.getD i op0)))))] [(7,i6 (o+(opLen (xs.getD i op0))))] [10] [i6 (IntKind.i64.wrap (o+(opLen (xs.getD i op0))))=i6 (o+(opLen (xs.getD i op0)))] ⟨wr_i64 (by have h1_:=htk_ (by omega); rw[opB_is,opR_is]at h1_; have h2_:=hol_ (by omega); first|omega|(rw[if_pos (by omega),if_neg (by omega)]at h1_; omega)|(rw[if_pos (by omega),if_pos (by omega)]at h1_; omega)|(rw[if_neg (by omega),if_neg (by omega)]at h1_; omega)) (by have h1_:=htk_ (by omega); rw[opB_is,opR_is]at h1_; have h2_:=hol_ (by omega); first|omega|(rw[if_pos (by omega),if_neg (by omega)]at h1_; omega)|(rw[if_pos (by omega),if_pos (by omega)]at h1_; omega)|(rw[if_neg (by omega),if_neg (by omega)]at h1_; omega)),trivial⟩ ?_
   refine nl (rg (xr1 2 [(52,.eq (i6 ((i:Int)+1)))] [(13,i6 ((i:Int)+1))] [] (w6 ((i:Int)+1)) ?_))
   refine nl ?_
   have B23:Below w.heap.size w w18:=(bt (bg (bt HB b10) g15 (HB).size) b19)
   refine⟨(i+1,g+(opLen (xs.getD i op0)),o+(opLen (xs.getD i op0))),by kernel_rfl,?_,?_⟩
   ·have h1_:=htk_ (by omega)
    rw[opB_is,opR_is,if_pos (.inl c20),if_neg (show ¬(xs.getD i op0).kind=4 by omega)]at h1_
    have h2_:=hnr_ (by omega)
    rw[if_pos c20,if_neg c21]at h2_
    exact⟨by omega,by omega,by omega,by rw[←h2_]; exact hN_,B23⟩
   (try dsimp only); omega
  refine xe1 2 [(25,.eq bF)] [(1,i6 p),(6,i6 g),(7,i6 o),(10,i6 (opLen (xs.getD i op0))),(11,aL A xs c),(12,i6 (xs.length:Int)),(13,nv i),(20,i6 ((xs.getD i op0).kind)),(24,bF)] (bN c20) ?_
  refine nl (cf (sq (X_region ?_)))
  by_cases c24:(xs.getD i op0).kind=4
  ·refine xr1 2 [(43,.eq bT)] [(42,bT)] [20,24] (bE c24) ?_
   refine nl (ct (sq (sq (X_region ?_))))
   refine xr 4 [(47,.eq (i6 (g+(opLen (xs.getD i op0)))))] [(44,i6 p),(47,i6 (g+(opLen (xs.getD i op0))))] [42] [i6 (IntKind.i64.wrap (g+(opLen (xs.getD i op0))))=i6 (g+(opLen (xs.getD i op0)))] ⟨wr_i64 (by have h1_:=htk_ (by omega); rw[opB_is,opR_is]at h1_; have h2_:=hol_ (by omega); first|omega|(rw[if_pos (by omega),if_neg (by omega)]at h1_; omega)|(rw[if_pos (by omega),if_pos (by omega)]at h1_; omega)|(rw[if_neg (by omega),if_neg (by omega)]at h1_; omega)) (by have h1_:=htk_ (by omega); rw[opB_is,opR_is]at h1_; have h2_:=hol_ (by omega); first|omega|(rw[if_pos (by omega),if_neg (by omega)]at h1_; omega)|(rw[if_pos (by omega),if_pos (by omega)]at h1_; omega)|(rw[if_neg (by omega),if_neg (by omega)]at h1_; omega)),trivial⟩ ?_
   by_cases c25:p<g+(opLen (xs.getD i op0))
   ·refine xr1 1 [(48,.eq bT)] [(48,bT)] [44,47] (dT c25) ?_
    refine nl (ct (sg (xe0 2 [(4,i6 0),(5,bF)] ?_)))
    refine nl (X_ret (rj [i6 0,bF] hR_ ?_))
    have B26:Below w.heap.size w w18:=(bt (bg (bt HB b10) g15 (HB).size) b19)
    have h2_:=hnr_ (by omega)
    rw[if_neg c20,if_pos c24,if_pos c25]at h2_
    rw[←hN_,h2_]
    exact⟨rfl,B26⟩
   refine xr1 1 [(48,.eq bF)] [(48,bF)] [44,47] (dF c25) ?_
   refine nl (cf (sk (X_region ?_)))
   refine xr 4 [(51,.eq (i6 (g+(opLen (xs.getD i op0)))))] [(6,i6 (g+(opLen (xs.getD i op0))))] [10,48] [i6 (IntKind.i64.wrap (g+(opLen (xs.getD i op0))))=i6 (g+(opLen (xs.getD i op0)))] ⟨wr_i64 (by have h1_:=htk_ (by omega); rw[opB_is,opR_is]at h1_; have h2_:=hol_ (by omega); first|omega|(rw[if_pos (by omega),if_neg (by omega)]at h1_; omega)|(rw[if_pos (by omega),if_pos (by omega)]at h1_; omega)|(rw[if_neg (by omega),if_neg (by omega)]at h1_; omega)) (by have h1_:=htk_ (by omega); rw[opB_is,opR_is]at h1_; have h2_:=hol_ (by omega); first|omega|(rw[if_pos (by omega),if_neg (by omega)]at h1_; omega)|(rw[if_pos (by omega),if_pos (by omega)]at h1_; omega)|(rw[if_neg (by omega),if_neg (by omega)]at h1_; omega)),trivial⟩ ?_
   refine nl (rg (xr1 2 [(52,.eq (i6 ((i:Int)+1)))] [(13,i6 ((i:Int)+1))] [] (w6 ((i:Int)+1)) ?_))
   refine nl ?_
   have B27:Below w.heap.size w w18:=(bt (bg (bt HB b10) g15 (HB).size) b19)
   refine⟨(i+1,g+(opLen (xs.getD i op0)),o),by kernel_rfl,?_,?_⟩
   ·have h1_:=htk_ (by omega)
    rw[opB_is,opR_is,if_pos (.inr c24),if_pos c24]at h1_
    have h2_:=hnr_ (by omega)
    rw[if_neg c20,if_pos c24,if_neg c25]at h2_
    exact⟨by omega,by omega,by omega,by rw[←h2_]; exact hN_,B27⟩
   (try dsimp only); omega
  refine xr1 2 [(43,.eq bF)] [(42,bF)] [20,24] (bN c24) ?_
  refine nl (cf (X_region ?_))
  refine xr 4 [(23,.eq (i6 (o+(opLen (xs.getD i op0)))))] [(7,i6 (o+(opLen (xs.getD i op0))))] [10,42] [i6 (IntKind.i64.wrap (o+(opLen (xs.getD i op0))))=i6 (o+(opLen (xs.getD i op0)))] ⟨wr_i64 (by have h1_:=htk_ (by omega); rw[opB_is,opR_is]at h1_; have h2_:=hol_ (by omega); first|omega|(rw[if_pos (by omega),if_neg (by omega)]at h1_; omega)|(rw[if_pos (by omega),if_pos (by omega)]at h1_; omega)|(rw[if_neg (by omega),if_neg (by omega)]at h1_; omega)) (by have h1_:=htk_ (by omega); rw[opB_is,opR_is]at h1_; have h2_:=hol_ (by omega); first|omega|(rw[if_pos (by omega),if_neg (by omega)]at h1_; omega)|(rw[if_pos (by omega),if_pos (by omega)]at h1_; omega)|(rw[if_neg (by omega),if_neg (by omega)]at h1_; omega)),trivial⟩ ?_
  refine nl (rg (xr1 2 [(52,.eq (i6 ((i:Int)+1)))] [(13,i6 ((i:Int)+1))] [] (w6 ((i:Int)+1)) ?_))
  refine nl ?_
  have B28:Below w.heap.size w w18:=(bt (bg (bt HB b10) g15 (HB).size) b19)
  refine⟨(i+1,g,o+(opLen (xs.getD i op0))),by kernel_rfl,?_,?_⟩
  ·have h1_:=htk_ (by omega)
   rw[opB_is,opR_is,if_neg (show ¬((xs.getD i op0).kind=3∨(xs.getD i op0).kind=4) by omega),if_neg c24]at h1_
   have h2_:=hnr_ (by omega)
   rw[if_neg c20,if_neg c24]at h2_
   exact⟨by omega,by omega,by omega,by rw[←h2_]; exact hN_,B28⟩
  (try dsimp only); omega
 refine xr1 1 [(14,.eq bF)] [(14,bF)] [] (dF c1) ?_
 refine nl (sq (cf (X_exit (sg (xe 7 [(55,.eq (i6 (o+p))),(57,.eq (i6 ((o+p)-g)))] [(4,i6 ((o+p)-g)),(5,bT)] [_,_] ⟨w6 (o+p),w6 ((o+p)-g),trivial⟩ ?_)))))
 refine nl (X_ret (rj [i6 ((o+p)-g),bT] hR_ ?_))
 rw[←hN_,nr_end (by omega)]
 exact⟨rfl,HB⟩
abbrev bMe :ByteArray:=⟨#[109,101]⟩
abbrev bYou :ByteArray:=⟨#[121,111,117]⟩
theorem kl_my :kl bMe bYou=true:=by kernel_rfl
theorem bA_me :(bMe.toList==bMe.toList)=true:=by kernel_rfl
theorem bA_you :(bYou.toList==bMe.toList)=false:=by kernel_rfl
theorem nm_me :nmOk bMe:=⟨by decide,by decide,by kernel_rfl⟩
theorem nm_you :nmOk bYou:=⟨by decide,by decide,by kernel_rfl⟩
section
variable {p q s : Int}
theorem nb_s1 (h1:0≤p)(h2:p≤s)(h3:0≤q)(h4:q≤s):sCode [] (bMe,p,q) s=0∧sMs [] (bMe,p,q) s=[(bMe,p,q)]:=by
  have hc:sCode [] (bMe,p,q) s=0:=sCode_0 nm_me (show ¬(p<0∨s<p∨q<0∨s<q) by omega) (fun h=>by have:=h.2; simp at this)
  exact⟨hc,sMs_put hc⟩
theorem nb_s2 (h1:0≤p)(h2:p≤s)(h3:0≤q)(h4:q≤s):sCode [(bMe,p,q)] (bYou,p,q) s=0∧sMs [(bMe,p,q)] (bYou,p,q) s=[(bMe,p,q),(bYou,p,q)]:=by
  have hc:sCode [(bMe,p,q)] (bYou,p,q) s=0:=sCode_0 nm_you (show ¬(p<0∨s<p∨q<0∨s<q) by omega) (fun h=>by have:=h.2; simp at this)
  exact⟨hc,(sMs_put hc).trans (mput_end (by intro x hx; rw[List.mem_singleton.1 hx]; exact kl_my))⟩
end
theorem nb_g (a b c d:Int):gMk [(bMe,a,b),(bYou,c,d)] bMe=(bMe,a,b)∧dCode [(bMe,a,b),(bYou,c,d)] bMe=0:=by
  have hi:mIx [(bMe,a,b),(bYou,c,d)] bMe=0:=by rw[mIx,if_neg (by rw[kl_irrefl]; decide)]
  have hin:mIn [(bMe,a,b),(bYou,c,d)] bMe:=by unfold mIn; rw[hi]; exact⟨by simp,rfl⟩
  exact⟨by rw[gMk,if_pos hin,hi]; rfl,if_pos hin⟩
theorem nb_h (a b c d:Int):gMk [(bMe,a,b),(bYou,c,d)] bYou=(bYou,c,d)∧dCode [(bMe,a,b),(bYou,c,d)] bYou=0:=by
  have hi:mIx [(bMe,a,b),(bYou,c,d)] bYou=1:=by rw[mIx,if_pos (show kl bMe bYou=true from kl_my),mIx,if_neg (by rw[kl_irrefl]; decide)]
  have hin:mIn [(bMe,a,b),(bYou,c,d)] bYou:=by unfold mIn; rw[hi]; exact⟨by simp,rfl⟩
  exact⟨by rw[gMk,if_pos hin,hi]; rfl,if_pos hin⟩
theorem nb_mv {xs:List OpA}{p q:Int}(h1:(plE xs p true).2=0)(h2:(plE xs p false).2=0)(h3:(plE xs q true).2=0)(h4:(plE xs q false).2=0):
    mvE xs bMe [(bMe,p,q),(bYou,p,q)]=0∧mvMs xs bMe [(bMe,p,q),(bYou,p,q)]=[(bMe,(plE xs p true).1,(plE xs q true).1),(bYou,(plE xs p false).1,(plE xs q false).1)]:=by
  have h:∀ x∈[((bMe,p,q):MarkA),(bYou,p,q)],mvOk xs bMe x:=by
    intro x hx
    simp only[List.mem_cons,List.not_mem_nil,or_false]at hx
    rcases hx with rfl|rfl
    · show (plE xs p (bMe.toList==bMe.toList)).2=0∧(plE xs q (bMe.toList==bMe.toList)).2=0
      rw[bA_me]; exact⟨h1,h3⟩
    · show (plE xs p (bYou.toList==bMe.toList)).2=0∧(plE xs q (bYou.toList==bMe.toList)).2=0
      rw[bA_you]; exact⟨h2,h4⟩
  refine⟨if_pos h,(if_pos h).trans ?_⟩
  show [(bMe,(plE xs p (bMe.toList==bMe.toList)).1,(plE xs q (bMe.toList==bMe.toList)).1),(bYou,(plE xs p (bYou.toList==bMe.toList)).1,(plE xs q (bYou.toList==bMe.toList)).1)]=_
  rw[bA_me,bA_you]
theorem nb_pl {p:Int}(b:Bool)(h0:0≤p)(h1:p≤1099511627776):plE [] p b=(p,0):=by
  unfold plE
  rw[if_neg (by omega),if_neg (show ¬1099511627776<plOf p b (([]:List OpA).map pelO)from by show ¬1099511627776<p; omega)]
  rfl
theorem nb_e {p q:Int}(h0:0≤p)(h1:p≤1099511627776)(h2:0≤q)(h3:q≤1099511627776):mvE [] bMe [(bMe,p,q),(bYou,p,q)]=0∧mvMs [] bMe [(bMe,p,q),(bYou,p,q)]=[(bMe,p,q),(bYou,p,q)]:=by
  have h:=nb_mv (xs:=[]) (p:=p) (q:=q) (by rw[nb_pl _ h0 h1]) (by rw[nb_pl _ h0 h1]) (by rw[nb_pl _ h2 h3]) (by rw[nb_pl _ h2 h3])
  rw[nb_pl _ h0 h1,nb_pl _ h0 h1,nb_pl _ h2 h3,nb_pl _ h2 h3]at h
  exact h
theorem deltaC_nil23 {w:World}{g:Nat}(h:RX.Blk w g 84 #[.slice none 0 0]):DeltaC w g []:=⟨none,0,h,Nat.le_refl _,⟨rfl,by decide,fun h=>absurd h (by decide)⟩⟩
theorem run_rem23 {P:Program}{t:TypeId}{k:IntKind}{a b:Int}(hb:b≠0)(w:World):(binOp .rem t (.int k a) (.int k b)).run P w=.ok (.int k (Int.tmod a b)) w:=by
  rw[binOp_rem]
  simp[Op.intDiv,hb]
abbrev kArr3 :Kd (Int×Int×Int):=Kd.pair (Kd.int .i64) (Kd.pair (Kd.int .i64) (Kd.int .i64))
abbrev arr0 :Int×Int×Int:=(0,0,0)
theorem Kd.atArr3 {w:World}{A:Option Addr}{n:Nat}{xs:List (Int×Int×Int)}(h:kArr3.C w A n xs){i:Int}(h0:0≤i)(h1:i<n):∃ ad,A=some ad∧CellsAt w (ad.add (i.toNat*3)) [.int .i64 (xs.getD i.toNat arr0).1,.int .i64 (xs.getD i.toNat arr0).2.1,.int .i64 (xs.getD i.toNat arr0).2.2]:=by
  obtain⟨ad,c,e,hK,hc⟩:=Kd.atC h arr0 h0 h1
  obtain⟨_,_,rfl,rfl,_,_,rfl,rfl,rfl⟩:=hK
  exact⟨ad,e,hc⟩
theorem repsArr3 {w:World}{base:Nat}{ok:Nat→Prop}(xs:List (Int×Int×Int)):Reps (kArr3.M w base ok) 3 xs (xs.flatMap fun x=>[.int .i64 x.1,.int .i64 x.2.1,.int .i64 x.2.2]):=
  reps_flatMap (R:=kArr3.M w base ok) (size:=3) (fun x=>[.int .i64 x.1,.int .i64 x.2.1,.int .i64 x.2.2]) (fun _=>rfl) (fun x=>⟨[.int .i64 x.1],_,rfl,rfl,[.int .i64 x.2.1],_,rfl,rfl,rfl⟩) xs
end Go.Proofs.YtlnnjfdonilgmaaGreatDoor
