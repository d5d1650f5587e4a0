import Derived.Test.YtgphmfnkeolbcaaGreatDoorT68
import Derived.Test.YtgphmfnkeolbcaaGreatDoorP2
import Derived.Test.YtgphmfnkeolbcaaGreatDoorPatch
/- What vellumref10 and vellumref21 answer of documents and their lines. Conditions: sizes. -/
set_option linter.unusedVariables false
set_option linter.unusedSimpArgs false
set_option maxRecDepth 100000
namespace Go.Proofs.YtgphmfnkeolbcaaGreatDoor
open Go Go.RowKit Go.Proofs.YtgphmfnkeolbcaaGreatDoorW.PrintWords RX
theorem ent129 :Ent Tryz.prog 129:=ent_of Tryz.func129 (by kernel_rfl) rfl
theorem ent107 :Ent Tryz.prog 107:=ent_of Tryz.func107 (by kernel_rfl) rfl
theorem ent52 :Ent Tryz.prog 52:=ent_of Tryz.func52 (by kernel_rfl) rfl
theorem ent105 :Ent Tryz.prog 105:=ent_of Tryz.func105 (by kernel_rfl) rfl
theorem ent104 :Ent Tryz.prog 104:=ent_of Tryz.func104 (by kernel_rfl) rfl
theorem ent37 :Ent Tryz.prog 37:=ent_of Tryz.func37 (by kernel_rfl) rfl
theorem ent39 :Ent Tryz.prog 39:=ent_of Tryz.func39 (by kernel_rfl) rfl
theorem r10ins_any (o:OpA)(A:Option Addr)(c:Nat)(w:World):Rt 129 #[.agg (o7A o (.slice A o.attrs.length c))] w (.bool (decide (o.kind=1∨o.kind=2))):=by
 refine en Tryz.func129 rfl 11 [(0,.agg (o7A o (aL A o.attrs c)))] (fun R_ hR_=>?_)
 refine sg (xwe 1 [] [(1,pw w.heap.size 0)] (w.alloc (.cells (o7A o (aL A o.attrs c)) 102)) [] trivial ?_)
 obtain⟨w1,w5,b2,k3,z4⟩:=new_world w (o7A o (aL A o.attrs c)) 102
 rw[w5]
 refine xr0 1 [] [] ?_
 refine nl (sg (xr1 2 [(4,.load (i6 o.kind))] [(4,i6 o.kind)] [] (lc 3 k3 0) ?_))
 by_cases c6:o.kind=1
 ·refine xe1 7 [(5,.eq bT)] [(2,bT)] (bE c6) ?_
  refine nl (X_ret (rj [bT] hR_ ?_))
  rw[show decide (o.kind=1∨o.kind=2)=true from decide_eq_true (by omega)]
  exact⟨rfl,b2⟩
 refine xe 4 [(5,.eq bF),(8,.load (i6 o.kind))] [(6,bF),(8,i6 o.kind)] [_,_] ⟨bN c6,lc 3 k3 0,trivial⟩ ?_
 by_cases c7:o.kind=2
 ·refine xe1 3 [(9,.eq bT)] [(2,bT)] (bE c7) ?_
  refine nl (X_ret (rj [bT] hR_ ?_))
  rw[show decide (o.kind=1∨o.kind=2)=true from decide_eq_true (by omega)]
  exact⟨rfl,b2⟩
 refine xe1 3 [(9,.eq bF)] [(2,bF)] (bN c7) ?_
 refine nl (X_ret (rj [bF] hR_ ?_))
 rw[show decide (o.kind=1∨o.kind=2)=false from decide_eq_false (by omega)]
 exact⟨rfl,b2⟩
theorem r10doc_any (A:Option Addr)(c:Nat)(xs:List OpA)(w:World)(hx:kOp.C w A xs.length xs)(hn:xs.length≤1100000)(hz:∀ i,i<xs.length→opSz (xs.getD i op0)):Rt 107 #[.slice A xs.length c] w (.bool (isDoc xs)):=by
 refine en Tryz.func107 rfl 17 [(0,aL A xs c)] (fun R_ hR_=>?_)
 refine sg (xe0 1 [(0,aL A xs c)] ?_)
 refine nl (sq (sg (xe0 3 [(6,aL A xs c),(7,i6 (xs.length:Int)),(8,i6 0)] ?_)))
 refine nl (bk (X_loop (ι:=Nat) (fun i=>[(6,aL A xs c),(7,i6 (xs.length:Int)),(8,i6 (i:Int))]) (fun i wl=>i≤xs.length∧(∀ j,j<i→(xs.getD j op0).kind=1∨(xs.getD j op0).kind=2)∧Below w.heap.size w wl) (fun i=>xs.length-i) 0 ⟨Nat.zero_le _,fun j hj=>absurd hj (Nat.not_lt_zero _),(Below.refl _ _)⟩ (by kernel_rfl) ?_))
 rintro i wl ⟨hi,hq0,HB⟩
 refine sq (X_region ?_)
 by_cases c1:(i:Int)<(xs.length:Int)
 ·refine xr1 1 [(9,.eq bT)] [(9,bT)] [] (dT c1) ?_
  refine nl (sq (ct (sk (sq (bk (sq (X_region ?_)))))))
  obtain⟨ad2,B5,c6,a3,c4,l7,C8⟩:=Kd.atOp (Kd.C_below hx HB) (i:=(i:Int)) (by omega) (by omega)
  replace c4:CellsAt wl (ad2.add ((i:Int).toNat*7)) (o7L (xs.getD i op0) (aL B5 (xs.getD i op0).attrs c6)):=c4
  replace l7:(xs.getD i op0).attrs.length≤c6:=l7
  replace C8:kAttr.C wl B5 ((xs.getD i op0).attrs.length) (xs.getD i op0).attrs:=C8
  refine xw 3 [(10,.idx ad2),(11,.load (.agg (o7A (xs.getD i op0) (aL B5 (xs.getD i op0).attrs c6))))] [(4,pw wl.heap.size 0),(11,.agg (o7A (xs.getD i op0) (aL B5 (xs.getD i op0).attrs c6)))] [9] (wl.alloc (.cells #[i6 0,s0,i6 0,i6 0,s0,i6 0,.slice none 0 0] 102)) [A=some ad2,(0:Int)≤(i:Int),(i:Int)<(xs.length:Int),la 102 (ad2.add ((i:Int).toNat*7)) (.agg (o7A (xs.getD i op0) (aL B5 (xs.getD i op0).attrs c6))) wl] ⟨a3,(by omega),(by omega),loadsE rfl rfl c4 0 ⟨by kernel_rfl,by kernel_rfl⟩,trivial⟩ ?_
  obtain⟨w9,w13,b10,k11,z12⟩:=new_world wl #[i6 0,s0,i6 0,i6 0,s0,i6 0,.slice none 0 0] 102
  rw[w13]
  refine xst (.agg (o7A (xs.getD i op0) (aL B5 (xs.getD i op0).attrs c6))) k11 0 (o7A (xs.getD i op0) (aL B5 (xs.getD i op0).attrs c6)) (fun w14 g15 k16 z17=>?_)
  refine nl (sg (xr 1 [(12,.load (.agg (o7A (xs.getD i op0) (aL B5 (xs.getD i op0).attrs c6))))] [(12,.agg (o7A (xs.getD i op0) (aL B5 (xs.getD i op0).attrs c6)))] [4,11] [la 102 (⟨wl.heap.size,0,none⟩) (.agg (o7A (xs.getD i op0) (aL B5 (xs.getD i op0).attrs c6))) w14] ⟨loadsB rfl rfl k16 0 ⟨by kernel_rfl,by kernel_rfl⟩,trivial⟩ ?_))
  refine xc 129 ent129 [.agg (o7A (xs.getD i op0) (aL B5 (xs.getD i op0).attrs c6))] (r10ins_any (xs.getD i op0) _ _ _) ?_
  rintro e w18 ⟨rfl,b19⟩; refine⟨_,rfl,?_⟩
  refine xr0 1 [(5,.bool (decide ((xs.getD i op0).kind=1∨(xs.getD i op0).kind=2)))] [12,13] ?_
  refine nl (sg (xr0 1 [(14,.bool (decide ((xs.getD i op0).kind=1∨(xs.getD i op0).kind=2)))] [5] ?_))
  by_cases c20:decide ((xs.getD i op0).kind=1∨(xs.getD i op0).kind=2)=true
  ·rw[show (decide ((xs.getD i op0).kind=1∨(xs.getD i op0).kind=2):Bool)=true from by simpa using c20]
   refine xe0 1 [(6,aL A xs c),(7,i6 (xs.length:Int)),(8,nv i),(15,bF)] ?_
   refine nl (cf (sk (rg (xr1 2 [(16,.eq (i6 ((i:Int)+1)))] [(8,i6 ((i:Int)+1))] [15] (w6 ((i:Int)+1)) ?_))))
   refine nl ?_
   have B21:Below w.heap.size w w18:=(bt (bg (bt HB b10) g15 (HB).size) b19)
   refine⟨(i+1),by kernel_rfl,?_,?_⟩
   ·exact⟨by omega,(fun j hj=>by by_cases e_:j=i; (· subst e_; exact of_decide_eq_true c20); (· exact hq0 j (by omega))),B21⟩
   (try dsimp only); omega
  rw[show (decide ((xs.getD i op0).kind=1∨(xs.getD i op0).kind=2):Bool)=false from by simpa using c20]
  refine xe0 1 [(6,aL A xs c),(7,i6 (xs.length:Int)),(8,nv i),(15,bT)] ?_
  refine nl (ct (sg (xe0 1 [(2,bF)] ?_)))
  refine nl (X_ret (rj [bF] hR_ ?_))
  have B22:Below w.heap.size w w18:=(bt (bg (bt HB b10) g15 (HB).size) b19)
  rw[isDoc_no (xs:=xs) (i:=i) (by omega) (fun h_=>c20 (decide_eq_true (.inl h_))) (fun h_=>c20 (decide_eq_true (.inr h_)))]
  exact⟨rfl,B22⟩
 refine xr1 1 [(9,.eq bF)] [(9,bF)] [] (dF c1) ?_
 refine nl (sq (cf (X_exit (sg (xe0 1 [(2,bT)] ?_)))))
 refine nl (X_ret (rj [bT] hR_ ?_))
 rw[isDoc_yes (xs:=xs) (fun t_ h_=>hq0 t_ (by omega))]
 exact⟨rfl,HB⟩
set_option maxHeartbeats 1000000 in
theorem r10cells_any (A:Option Addr)(c:Nat)(xs:List OpA)(w:World)(hx:kOp.C w A xs.length xs)(hn:xs.length≤1100000)(hz:∀ i,i<xs.length→opSz (xs.getD i op0))(hL:(cellsAll xs).length≤100000000):Calls Tryz.prog 52 #[.slice A xs.length c] w fun e w'=>∃ A' c' zs,zs=cellsAll xs∧e=.returned (.slice A' zs.length c')∧zs.length≤c'∧kCell.R 51 w' w.heap.size (OkFrom w.heap.size) (.slice A' zs.length c') zs∧Below w.heap.size w w':=by
 refine en Tryz.func52 rfl 19 [(0,aL A xs c)] (fun R_ hR_=>?_)
 refine sg (xe0 1 [(0,aL A xs c)] ?_)
 refine nl (sg (xw 1 [] [(6,.slice (some ⟨w.heap.size,0,none⟩) 0 0)] [] (w.alloc (.cells #[] 51)) [] trivial ?_))
 obtain⟨w1,w5,b2,k3,z4⟩:=new_world w #[] 51
 rw[w5]
 refine xr0 1 [(3,.slice (some ⟨w.heap.size,0,none⟩) 0 0)] [6] ?_
 refine nl (sq (sg (xr0 3 [(7,aL A xs c),(8,i6 (xs.length:Int)),(9,i6 0)] [0] ?_)))
 refine nl (X_block ?_)
 have r6:=Kd.R_litB kCell (W:=w) (e:=51) (cs:=#[]) [] k3 (repsCell0) (Nat.le_of_ble_eq_true (by kernel_rfl))
 refine X_loop (ι:=Nat×Option Addr×Nat×List CellA) (fun⟨i,A3,c3,zs3⟩=>[(3,aL A3 zs3 c3),(7,aL A xs c),(8,i6 (xs.length:Int)),(9,i6 (i:Int))]) (fun⟨i,A3,c3,zs3⟩ wl=>i≤xs.length∧zs3=cellsAll (xs.take i)∧kCell.R 51 wl w.heap.size (OkFrom w.heap.size) (aL A3 zs3 c3) zs3∧w.heap.size≤wl.heap.size∧Below w.heap.size w wl) (fun⟨i,A3,c3,zs3⟩=>xs.length-i) (0,(some ⟨w.heap.size,0,none⟩),0,[]) ⟨Nat.zero_le _,rfl,r6,(b2).size,b2⟩ (by kernel_rfl) ?_
 rintro⟨i,A3,c3,zs3⟩ wl ⟨hi,he3,hr3,hle3,HB⟩
 have hz3_:zs3.length=(cellsAll (xs.take i)).length:=by rw[he3]
 refine sq (X_region ?_)
 by_cases c7:(i:Int)<(xs.length:Int)
 ·refine xr1 1 [(10,.eq bT)] [(10,bT)] [] (dT c7) ?_
  refine nl (sq (ct (sk (sq (bk (sq (X_region ?_)))))))
  obtain⟨ad8,B11,c12,a9,c10,l13,C14⟩:=Kd.atOp (Kd.C_below hx HB) (i:=(i:Int)) (by omega) (by omega)
  replace c10:CellsAt wl (ad8.add ((i:Int).toNat*7)) (o7L (xs.getD i op0) (aL B11 (xs.getD i op0).attrs c12)):=c10
  replace l13:(xs.getD i op0).attrs.length≤c12:=l13
  replace C14:kAttr.C wl B11 ((xs.getD i op0).attrs.length) (xs.getD i op0).attrs:=C14
  refine xw 3 [(11,.idx ad8),(12,.load (.agg (o7A (xs.getD i op0) (aL B11 (xs.getD i op0).attrs c12))))] [(5,pw wl.heap.size 0),(12,.agg (o7A (xs.getD i op0) (aL B11 (xs.getD i op0).attrs c12)))] [10] (wl.alloc (.cells #[i6 0,s0,i6 0,i6 0,s0,i6 0,.slice none 0 0] 102)) [A=some ad8,(0:Int)≤(i:Int),(i:Int)<(xs.length:Int),la 102 (ad8.add ((i:Int).toNat*7)) (.agg (o7A (xs.getD i op0) (aL B11 (xs.getD i op0).attrs c12))) wl] ⟨a9,(by omega),(by omega),loadsE rfl rfl c10 0 ⟨by kernel_rfl,by kernel_rfl⟩,trivial⟩ ?_
  obtain⟨w15,w19,b16,k17,z18⟩:=new_world wl #[i6 0,s0,i6 0,i6 0,s0,i6 0,.slice none 0 0] 102
  rw[w19]
  refine xst (.agg (o7A (xs.getD i op0) (aL B11 (xs.getD i op0).attrs c12))) k17 0 (o7A (xs.getD i op0) (aL B11 (xs.getD i op0).attrs c12)) (fun w20 g21 k22 z23=>?_)
  refine nl (rg (xr 2 [(14,.load (.agg (o7A (xs.getD i op0) (aL B11 (xs.getD i op0).attrs c12))))] [(13,aL A3 zs3 c3),(14,.agg (o7A (xs.getD i op0) (aL B11 (xs.getD i op0).attrs c12)))] [3,5,12] [la 102 (⟨wl.heap.size,0,none⟩) (.agg (o7A (xs.getD i op0) (aL B11 (xs.getD i op0).attrs c12))) w20] ⟨loadsB rfl rfl k22 0 ⟨by kernel_rfl,by kernel_rfl⟩,trivial⟩ ?_))
  refine xc 113 ent113 [.agg (o7A (xs.getD i op0) (aL B11 (xs.getD i op0).attrs c12))] (r4cells_any (xs.getD i op0) _ _ _ (Kd.C_below C14 (bg b16 g21 (Nat.le_refl _))) (hz i (by omega))) ?_
  rintro e w26 ⟨A24,c25,rfl,r27,b28⟩; refine⟨_,rfl,?_⟩
  have hcap_:=cellsAll_take (xs:=xs) (i:=i) (by omega)
  have hcl_:(cellsAll (xs.take (i+1))).length≤(cellsAll xs).length:=cellsAll_le xs (i+1)
  rw[hcap_,List.length_append]at hcl_
  have B37:Below wl.heap.size wl w26:=(bt (bg b16 g21 (Nat.le_refl _)) b28)
  refine XL_appendRow (c':=c25) kCell cell0 rfl rfl rfl w.heap.size 51 (.agg #[.int .i32 0,s0,i6 0,i6 0,s0,.slice none 0 0]) 80 Tryz.underlying39 info51 rfl (by decide) (by omega) rfl zs3 (cellsP (xs.getD i op0)) (by kernel_rfl) (Kd.R_below hr3 B37) (Kd.R_low r27 ((bg (bt HB b16) g21 hle3)).size) ((bt (bg (bt HB b16) g21 hle3) b28)).size (by omega) ?_
  intro A29 c30 w31 r32 c33 g34 l35 a36
  refine xr0 1 [(3,aL A29 (zs3++cellsP (xs.getD i op0)) c30)] [13,14,15,16] ?_
  refine nl (rg (xr1 2 [(17,.eq (i6 ((i:Int)+1)))] [(9,i6 ((i:Int)+1))] [] (w6 ((i:Int)+1)) ?_))
  refine nl ?_
  have B38:Below w.heap.size w w31:=(bgo (bt (bg (bt HB b16) g21 hle3) b28) g34 l35 (Nat.le_refl _))
  refine⟨(i+1,A29,c30,(zs3++cellsP (xs.getD i op0))),by kernel_rfl,?_,?_⟩
  ·exact⟨by omega,by rw[cellsAll_take (by omega),he3],r32,(B38).size,B38⟩
  (try dsimp only); omega
 refine xr1 1 [(10,.eq bF)] [(10,bF)] [] (dF c7) ?_
 refine nl (sq (cf (X_exit (sg (xe0 2 [(2,aL A3 zs3 c3)] ?_)))))
 refine nl (X_ret (rj [aL A3 zs3 c3] hR_ ?_))
 have hxi:xs.take i=xs:=List.take_of_length_le (by omega)
 rw[hxi]at he3
 exact⟨_,_,zs3,he3,rfl,(RX.Kd.R_len hr3).2,Kd.R_low hr3 (Nat.le_refl _),HB⟩
theorem sc_letL {xs:List OpA}:∀ c∈cellsAll xs,U.vz (letL c):=by
 intro c hc
 obtain⟨o,_,hc⟩:=List.mem_flatMap.1 hc
 unfold cellsP at hc
 split at hc
 ·rw[List.mem_singleton.1 hc]; show U.vz 65532; unfold U.vz; exact⟨by decide,by unfold U.vr; decide⟩
 obtain⟨r,hr,rfl⟩:=List.mem_map.1 hc
 have hv:=U.sc_ok o.text r hr
 have e:letL (cellR o.attrs r)=(r:Int):=if_neg (by show ¬((r:Int)<0); omega)
 rw[e]
 exact⟨Int.natCast_nonneg _,by rw[Int.toNat_natCast]; exact hv⟩
theorem letL_take {zs:List CellA}{i:Nat}(h:i<zs.length):(zs.take (i+1)).map letL=(zs.take i).map letL++[letL (zs.getD i cell0)]:=by rw[cells_take h,List.map_append]; rfl
set_option maxHeartbeats 1000000 in
theorem r21text_any (A:Option Addr)(c:Nat)(zs:List CellA)(w:World)(hC:kCell.C w A zs.length zs)(hn:zs.length≤100000000)(hv:∀ c∈zs,U.vz (letL c)):Rt 105 #[.slice A zs.length c] w (sT (lnText zs)):=by
 refine en Tryz.func105 rfl 25 [(0,aL A zs c)] (fun R_ hR_=>?_)
 refine sg (xe0 1 [(0,aL A zs c)] ?_)
 refine nl (sg (xw 1 [] [(7,.slice (some ⟨w.heap.size,0,none⟩) 0 0)] [] (w.alloc (.cells #[] 5)) [] trivial ?_))
 obtain⟨w1,w5,b2,k3,z4⟩:=new_world w #[] 5
 rw[w5]
 refine xr0 1 [(3,.slice (some ⟨w.heap.size,0,none⟩) 0 0)] [7] ?_
 refine nl (sq (sg (xr0 3 [(8,aL A zs c),(9,i6 (zs.length:Int)),(10,i6 0)] [0] ?_)))
 refine nl (X_block ?_)
 have r6:=Kd.R_litB (Kd.int .u8) (W:=w) (e:=5) (cs:=#[]) [] k3 (repsInt []) (Nat.le_of_ble_eq_true (by kernel_rfl))
 refine X_loop (ι:=Nat×Option Addr×Nat×Nat) (fun⟨i,A3,n3,c3⟩=>[(3,.slice A3 n3 c3),(8,aL A zs c),(9,i6 (zs.length:Int)),(10,i6 (i:Int))]) (fun⟨i,A3,n3,c3⟩ wl=>i≤zs.length∧(Kd.int .u8).R 5 wl w.heap.size (OkFrom w.heap.size) (.slice A3 n3 c3) (tbytes ((zs.take i).map letL))∧w.heap.size≤wl.heap.size∧Below w.heap.size w wl) (fun⟨i,A3,n3,c3⟩=>zs.length-i) (0,(some ⟨w.heap.size,0,none⟩),0,0) ⟨by omega,r6,(b2).size,b2⟩ (by kernel_rfl) ?_
 rintro⟨i,A3,n3,c3⟩ wl ⟨hi,hr3,hle3,HB⟩
 refine sq (X_region ?_)
 by_cases c7:(i:Int)<(zs.length:Int)
 ·refine xr1 1 [(11,.eq bT)] [(11,bT)] [] (dT c7) ?_
  refine nl (sq (ct (sk (sq (bk (sq (X_region ?_)))))))
  obtain⟨ad8,B11,c12,a9,c10,l13,C14⟩:=Kd.atCell (Kd.C_below hC HB) (i:=(i:Int)) (by omega) (by omega)
  replace c10:CellsAt wl (ad8.add ((i:Int).toNat*6)) (c6L (zs.getD i cell0) (aL B11 (zs.getD i cell0).attrs c12)):=c10
  replace l13:(zs.getD i cell0).attrs.length≤c12:=l13
  replace C14:kAttr.C wl B11 ((zs.getD i cell0).attrs.length) (zs.getD i cell0).attrs:=C14
  refine xw 3 [(12,.idx ad8),(13,.load (.agg (c6A (zs.getD i cell0) (aL B11 (zs.getD i cell0).attrs c12))))] [(5,pw wl.heap.size 0),(13,.agg (c6A (zs.getD i cell0) (aL B11 (zs.getD i cell0).attrs c12)))] [11] (wl.alloc (.cells #[.int .i32 0,s0,i6 0,i6 0,s0,.slice none 0 0] 51)) [A=some ad8,(0:Int)≤(i:Int),(i:Int)<(zs.length:Int),la 51 (ad8.add ((i:Int).toNat*6)) (.agg (c6A (zs.getD i cell0) (aL B11 (zs.getD i cell0).attrs c12))) wl] ⟨a9,(by omega),(by omega),loadsE rfl rfl c10 0 ⟨by kernel_rfl,by kernel_rfl⟩,trivial⟩ ?_
  obtain⟨w15,w19,b16,k17,z18⟩:=new_world wl #[.int .i32 0,s0,i6 0,i6 0,s0,.slice none 0 0] 51
  rw[w19]
  refine xst (.agg (c6A (zs.getD i cell0) (aL B11 (zs.getD i cell0).attrs c12))) k17 0 (c6A (zs.getD i cell0) (aL B11 (zs.getD i cell0).attrs c12)) (fun w20 g21 k22 z23=>?_)
  refine nl (sg (xr1 3 [(15,.load (.int .i32 ((zs.getD i cell0).rune)))] [(6,.int .i32 ((zs.getD i cell0).rune))] [5,13] (lc 21 k22 0) ?_))
  refine nl (sq (sg (xr0 1 [(16,.int .i32 ((zs.getD i cell0).rune))] [] ?_)))
  by_cases c24:(zs.getD i cell0).rune<0
  ·refine xr1 1 [(17,.eq bT)] [(17,bT)] [16] (dT c24) ?_
   refine nl (ct (rg (xe0 1 [(3,.slice A3 n3 c3),(6,.int .i32 65532),(8,aL A zs c),(9,i6 (zs.length:Int)),(10,nv i)] ?_)))
   refine nl (rg (xr0 2 [(18,.slice A3 n3 c3),(19,.int .i32 65532)] [3,6] ?_))
   have hi1:i<zs.length:=by omega
   have hvz:U.vz (letL (zs.getD i cell0)):=hv _ (getD_mem cell0 hi1)
   obtain⟨k,hkk⟩:=Int.eq_ofNat_of_zero_le hvz.1
   have hvk:U.vr k:=by have h_:=hvz.2; rw[hkk,Int.toNat_natCast]at h_; exact h_
   have hxk:(65532:Int)=(k:Int):=by rw[←hkk]; exact(if_pos c24).symm
   rw[hxk]
   refine xc 165 ent165 [.int .i32 (k:Int)] (encode_any k hvk _) ?_
   rintro e w25 ⟨rfl,b26⟩; refine⟨_,rfl,?_⟩
   have hel:=U.enc_len k
   have hes:=U.encB_size k
   have htl:=tbytes_le ((zs.take i).map letL)
   rw[List.length_map,List.length_take]at htl
   have B34:Below wl.heap.size wl w25:=(bt (bg b16 g21 (Nat.le_refl _)) b26)
   refine XL_appendStr rfl rfl rfl w.heap.size 5 Tryz.underlying221 Tryz.underlying9 info5 (tbytes ((zs.take i).map letL)) (U.encB k) (by kernel_rfl) (Kd.R_below hr3 B34) ((bt (bg (bt HB b16) g21 hle3) b26)).size (by omega) ?_
   intro A27 c28 w29 r30 c31 g32 l33
   refine xr0 1 [(3,aL A27 ((tbytes ((zs.take i).map letL))++bytesOf (U.encB k)) c28)] [18,19,20,21] ?_
   refine nl (rg (xr1 2 [(22,.eq (i6 ((i:Int)+1)))] [(10,i6 ((i:Int)+1))] [] (w6 ((i:Int)+1)) ?_))
   refine nl ?_
   have B35:Below w.heap.size w w29:=(bgo (bt (bg (bt HB b16) g21 hle3) b26) g32 l33 (Nat.le_refl _))
   refine⟨(i+1,A27,((tbytes ((zs.take i).map letL))++bytesOf (U.encB k)).length,c28),by kernel_rfl,?_,?_⟩
   ·have hts:tbytes ((zs.take (i+1)).map letL)=((tbytes ((zs.take i).map letL))++bytesOf (U.encB k)):=by rw[letL_take hi1,tbytes_snoc,hkk,Int.toNat_natCast]
    exact⟨by omega,by rw[hts]; exact r30,(B35).size,B35⟩
   (try dsimp only); omega
  refine xr1 1 [(17,.eq bF)] [(17,bF)] [16] (dF c24) ?_
  refine nl (cf (sk (rg (xe0 2 [(8,aL A zs c),(9,i6 (zs.length:Int)),(10,nv i),(18,.slice A3 n3 c3),(19,.int .i32 ((zs.getD i cell0).rune))] ?_))))
  have hi1:i<zs.length:=by omega
  have hvz:U.vz (letL (zs.getD i cell0)):=hv _ (getD_mem cell0 hi1)
  obtain⟨k,hkk⟩:=Int.eq_ofNat_of_zero_le hvz.1
  have hvk:U.vr k:=by have h_:=hvz.2; rw[hkk,Int.toNat_natCast]at h_; exact h_
  have hxk:(zs.getD i cell0).rune=(k:Int):=by rw[←hkk]; exact(if_neg c24).symm
  rw[hxk]
  refine xc 165 ent165 [.int .i32 (k:Int)] (encode_any k hvk _) ?_
  rintro e w36 ⟨rfl,b37⟩; refine⟨_,rfl,?_⟩
  have hel:=U.enc_len k
  have hes:=U.encB_size k
  have htl:=tbytes_le ((zs.take i).map letL)
  rw[List.length_map,List.length_take]at htl
  have B45:Below wl.heap.size wl w36:=(bt (bg b16 g21 (Nat.le_refl _)) b37)
  refine XL_appendStr rfl rfl rfl w.heap.size 5 Tryz.underlying221 Tryz.underlying9 info5 (tbytes ((zs.take i).map letL)) (U.encB k) (by kernel_rfl) (Kd.R_below hr3 B45) ((bt (bg (bt HB b16) g21 hle3) b37)).size (by omega) ?_
  intro A38 c39 w40 r41 c42 g43 l44
  refine xr0 1 [(3,aL A38 ((tbytes ((zs.take i).map letL))++bytesOf (U.encB k)) c39)] [18,19,20,21] ?_
  refine nl (rg (xr1 2 [(22,.eq (i6 ((i:Int)+1)))] [(10,i6 ((i:Int)+1))] [] (w6 ((i:Int)+1)) ?_))
  refine nl ?_
  have B46:Below w.heap.size w w40:=(bgo (bt (bg (bt HB b16) g21 hle3) b37) g43 l44 (Nat.le_refl _))
  refine⟨(i+1,A38,((tbytes ((zs.take i).map letL))++bytesOf (U.encB k)).length,c39),by kernel_rfl,?_,?_⟩
  ·have hts:tbytes ((zs.take (i+1)).map letL)=((tbytes ((zs.take i).map letL))++bytesOf (U.encB k)):=by rw[letL_take hi1,tbytes_snoc,hkk,Int.toNat_natCast]
   exact⟨by omega,by rw[hts]; exact r41,(B46).size,B46⟩
  (try dsimp only); omega
 refine xr1 1 [(11,.eq bF)] [(11,bF)] [] (dF c7) ?_
 refine nl (sq (cf (X_exit (sg (xe0 1 [(23,.slice A3 n3 c3)] ?_)))))
 refine xe 2 [(24,.as (sT (strOfNums (tbytes ((zs.take i).map letL)))))] [(2,sT (strOfNums (tbytes ((zs.take i).map letL))))] [RunsAs Tryz.prog [(23,.slice A3 n3 c3)] (Go.Op.convert 221 9 (Go.Operand.tmp 23)) 9 (sT (strOfNums (tbytes ((zs.take i).map letL)))) wl] ⟨runs_conv rfl (conv_bytesC (tbytes ((zs.take i).map letL)) Tryz.underlying221 Tryz.underlying5 Tryz.underlying9 hr3),trivial⟩ ?_
 refine nl (X_ret (rj [sT (strOfNums (tbytes ((zs.take i).map letL)))] hR_ ?_))
 have hit:zs.take i=zs:=List.take_of_length_le (by omega)
 rw[hit,text_bytes (fun r_ h_=>by obtain⟨c_,hc_,rfl⟩:=List.mem_map.1 h_; exact hv c_ hc_)]
 exact⟨rfl,HB⟩
theorem r21refuse_any (A:Option Addr)(c:Nat)(xs:List OpA)(w:World)(hx:kOp.C w A xs.length xs)(hn:xs.length≤1100000)(hz:∀ i,i<xs.length→opSz (xs.getD i op0))(hL:(cellsAll xs).length≤100000000):Rt 104 #[.slice A xs.length c] w (i6 (lnErr xs:Int)):=by
 refine en Tryz.func104 rfl 25 [(0,aL A xs c)] (fun R_ hR_=>?_)
 refine sg (xe0 1 [(0,aL A xs c)] ?_)
 refine nl (sg (xr0 1 [(6,aL A xs c)] [] ?_))
 refine xc 107 ent107 [aL A xs c] (r10doc_any _ _ xs _ hx hn hz) ?_
 rintro e w1 ⟨rfl,b2⟩; refine⟨_,rfl,?_⟩
 refine xr0 1 [(3,.bool (isDoc xs))] [6,7] ?_
 refine nl (sq (sg (xr0 1 [(8,.bool (isDoc xs))] [3] ?_)))
 by_cases c_3:isDoc xs=true
 ·rw[show (isDoc xs:Bool)=true from by simpa using c_3]
  refine xr0 1 [(9,bF)] [8] ?_
  refine nl (cf (sk (sg (xe0 1 [(10,aL A xs c)] ?_))))
  refine xc 52 ent52 [aL A xs c] (r10cells_any _ _ xs _ (Kd.C_below hx b2) hn hz hL) ?_
  rintro e w10 ⟨A4,c5,zs6,ez7,rfl,l8,r9,b11⟩; refine⟨_,rfl,?_⟩
  have hzl_:zs6.length=(cellsAll xs).length:=by rw[ez7]
  refine xe0 1 [(4,aL A4 zs6 c5)] ?_
  refine nl (sg (xr0 3 [(5,i6 (zs6.length:Int))] [] ?_))
  refine nl (sq (sg (xr0 1 [(14,i6 (zs6.length:Int))] [] ?_)))
  by_cases c12:(zs6.length:Int)=0
  ·refine xe1 10 [(15,.eq bT)] [(24,bT)] (bE c12) ?_
   refine nl (ct (sg (xe0 1 [(2,i6 14)] ?_)))
   refine nl (X_ret (rj [i6 14] hR_ ?_))
   have hie_:=lnEnds_iff (cellsAll xs); rw[←ez7]at hie_
   rw[show lnErr xs=14 from by unfold lnErr; rw[if_pos c_3,←ez7,if_neg (fun h_=>by have h1_:=hie_.1 h_; first|omega|(rw[show zs6.length-1=((zs6.length:Int)-1).toNat from by omega]at h1_; omega))]]
   exact⟨rfl,(bt b2 b11)⟩
  refine xe 5 [(15,.eq bF),(19,.eq (i6 ((zs6.length:Int)-1)))] [(16,bF),(17,aL A4 zs6 c5),(19,i6 ((zs6.length:Int)-1))] [_,_] ⟨bN c12,w6 ((zs6.length:Int)-1),trivial⟩ ?_
  obtain⟨ad13,B16,c17,a14,c15,l18,C19⟩:=Kd.atCell (Kd.R_C r9) (i:=(zs6.length:Int)-1) (by omega) (by omega)
  replace c15:CellsAt w10 (ad13.add (((zs6.length:Int)-1).toNat*6)) (c6L (zs6.getD ((zs6.length:Int)-1).toNat cell0) (aL B16 (zs6.getD ((zs6.length:Int)-1).toNat cell0).attrs c17)):=c15
  replace l18:(zs6.getD ((zs6.length:Int)-1).toNat cell0).attrs.length≤c17:=l18
  replace C19:kAttr.C w10 B16 ((zs6.getD ((zs6.length:Int)-1).toNat cell0).attrs.length) (zs6.getD ((zs6.length:Int)-1).toNat cell0).attrs:=C19
  refine xr 3 [(20,.idx ad13),(22,.load (.int .i32 ((zs6.getD ((zs6.length:Int)-1).toNat cell0).rune)))] [(22,.int .i32 ((zs6.getD ((zs6.length:Int)-1).toNat cell0).rune))] [17,19] [A4=some ad13,(0:Int)≤(zs6.length:Int)-1,(zs6.length:Int)-1<(zs6.length:Int),la 21 (ad13.add (((zs6.length:Int)-1).toNat*6)) (.int .i32 ((zs6.getD ((zs6.length:Int)-1).toNat cell0).rune)) w10] ⟨a14,(by omega),(by omega),loads1 rfl (elem_cell c15 0 _ rfl),trivial⟩ ?_
  by_cases c20:(zs6.getD ((zs6.length:Int)-1).toNat cell0).rune=10
  ·refine xe1 2 [(23,.eq bF)] [(24,bF)] (nF c20) ?_
   refine nl (cf (sk (sg (xe0 1 [(2,i6 0)] ?_))))
   refine nl (X_ret (rj [i6 0] hR_ ?_))
   have hie_:=lnEnds_iff (cellsAll xs); rw[←ez7]at hie_
   rw[show lnErr xs=0 from by unfold lnErr; rw[if_pos c_3,←ez7,if_pos (hie_.2 ⟨by omega,by rw[show zs6.length-1=((zs6.length:Int)-1).toNat from by omega]; omega⟩)]]
   exact⟨rfl,(bt b2 b11)⟩
  refine xe1 2 [(23,.eq bT)] [(24,bT)] (nT c20) ?_
  refine nl (ct (sg (xe0 1 [(2,i6 14)] ?_)))
  refine nl (X_ret (rj [i6 14] hR_ ?_))
  have hie_:=lnEnds_iff (cellsAll xs); rw[←ez7]at hie_
  rw[show lnErr xs=14 from by unfold lnErr; rw[if_pos c_3,←ez7,if_neg (fun h_=>by have h1_:=hie_.1 h_; first|omega|(rw[show zs6.length-1=((zs6.length:Int)-1).toNat from by omega]at h1_; omega))]]
  exact⟨rfl,(bt b2 b11)⟩
 rw[show (isDoc xs:Bool)=false from by simpa using c_3]
 refine xr0 1 [(9,bT)] [8] ?_
 refine nl (ct (sg (xe0 1 [(2,i6 9)] ?_)))
 refine nl (X_ret (rj [i6 9] hR_ ?_))
 rw[show lnErr xs=9 from if_neg c_3]
 exact⟨rfl,b2⟩
end Go.Proofs.YtgphmfnkeolbcaaGreatDoor
