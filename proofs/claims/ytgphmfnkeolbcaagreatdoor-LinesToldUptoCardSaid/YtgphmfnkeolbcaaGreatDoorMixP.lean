import Derived.Test.YtgphmfnkeolbcaaGreatDoorT69
import Derived.Test.YtgphmfnkeolbcaaGreatDoorO3
import Derived.Test.YtgphmfnkeolbcaaGreatDoorRow
import Derived.Laws.AppendOwn
import Derived.Test.YtgphmfnkeolbcaaGreatDoorP1
import Derived.Test.YtgphmfnkeolbcaaGreatDoorT67
/- vellumref21.Lines, At, Place, Touched, Text; vellumref10.Result of documents. Conditions: sizes. -/
set_option linter.unusedVariables false
set_option linter.unusedSimpArgs false
set_option maxRecDepth 100000
namespace Go.Proofs.YtgphmfnkeolbcaaGreatDoor
open Go Go.RowKit Go.Proofs.YtgphmfnkeolbcaaGreatDoorW.PrintWords RX
theorem cellsAll_att {xs:List OpA}(hz:∀ i,i<xs.length→opSz (xs.getD i op0)):∀ c∈cellsAll xs,c.attrs.length≤100000000:=by
 intro c hc
 obtain⟨o,ho,hc⟩:=List.mem_flatMap.1 hc
 have h1:opSz o:=by
  obtain⟨i,hi,rfl⟩:=List.getElem_of_mem ho
  have h1:=hz i hi
  rwa [List.getD_eq_getElem?_getD,List.getElem?_eq_getElem hi]at h1
 obtain⟨j,hj,rfl⟩:=List.getElem_of_mem hc
 have h2:=cellsP_len h1 hj
 rwa [List.getD_eq_getElem?_getD,List.getElem?_eq_getElem hj]at h2
theorem ln_sub {zs:List CellA}{i:Nat}(hi:i≤zs.length):(lnRun (zs.take i)).2.2.1≤i∧(lnRun (zs.take i)).2.1=((zs.take i).drop (lnRun (zs.take i)).2.2.1).map letL∧(lnRun (zs.take i)).2.1.length=i-(lnRun (zs.take i)).2.2.1∧(lnRun (zs.take i)).2.2.2=i∧(lnRun (zs.take i)).1.length≤i:=by
 obtain⟨h1,h2,h3,h4⟩:=lnRun_inv (zs.take i)
 rw[List.length_take,Nat.min_eq_left hi]at h1 h2 h4
 exact⟨by omega,h3,by omega,h1,h4⟩
set_option maxHeartbeats 1000000 in
theorem r21lines_any (A:Option Addr)(c:Nat)(xs:List OpA)(w:World)(hx:kOp.C w A xs.length xs)(hn:xs.length≤1100000)(hz:∀ i,i<xs.length→opSz (xs.getD i op0))(hL:(cellsAll xs).length≤100000000):Calls Tryz.prog 37 #[.slice A xs.length c] w fun e w'=>∃ A' c' ls,ls=lnOf xs∧e=.returned (.tuple #[.slice A' ls.length c',i6 (lnErr xs:Int)])∧ls.length≤c'∧kLine.R 78 w' w.heap.size (OkFrom w.heap.size) (.slice A' ls.length c') ls∧Below w.heap.size w w':=by
 refine en Tryz.func37 rfl 49 [(0,aL A xs c)] (fun R_ hR_=>?_)
 refine sg (xe0 2 [(0,aL A xs c)] ?_)
 refine nl (sg (xr0 1 [(10,aL A xs c)] [] ?_))
 refine xc 104 ent104 [aL A xs c] (r21refuse_any _ _ xs _ hx hn hz hL) ?_
 rintro e w1 ⟨rfl,b2⟩; refine⟨_,rfl,?_⟩
 refine xr0 1 [(4,i6 (lnErr xs:Int))] [10,11] ?_
 refine nl (sq (sg (xr0 1 [(12,i6 (lnErr xs:Int))] [] ?_)))
 by_cases c3:(lnErr xs:Int)=0
 ·refine xr1 1 [(13,.eq bF)] [(13,bF)] [12] (nF c3) ?_
  refine nl (cf (sk (sg (xw 1 [] [(15,.slice (some ⟨w1.heap.size,0,none⟩) 0 0)] [4,13] (w1.alloc (.cells #[] 78)) [] trivial ?_))))
  obtain⟨w4,w8,b5,k6,z7⟩:=new_world w1 #[] 78
  rw[w8]
  refine xe0 1 [(0,aL A xs c),(5,.slice (some ⟨w1.heap.size,0,none⟩) 0 0)] ?_
  refine nl (sg (xr0 1 [(6,i6 0)] [] ?_))
  refine nl (sg (xr0 1 [(16,aL A xs c)] [0] ?_))
  refine xc 52 ent52 [aL A xs c] (r10cells_any _ _ xs _ (Kd.C_below hx (bt b2 b5)) hn hz hL) ?_
  rintro e w15 ⟨A9,c10,zs11,ez12,rfl,l13,r14,b16⟩; refine⟨_,rfl,?_⟩
  have hzl_:zs11.length=(cellsAll xs).length:=by rw[ez12]
  refine xr0 1 [(7,aL A9 zs11 c10)] [16,17] ?_
  refine nl (sq (sg (xr0 3 [(18,aL A9 zs11 c10),(19,i6 (zs11.length:Int)),(20,i6 0)] [] ?_)))
  refine nl (X_block ?_)
  have r17:=Kd.R_litB kLine (W:=w1) (e:=78) (cs:=#[]) [] k6 (repsLine0) (Nat.le_of_ble_eq_true (by kernel_rfl))
  refine X_loop (ι:=Nat×Option Addr×Nat×List LineA×Nat) (fun⟨i,A5,c5,ls5,fr⟩=>[(5,aL A5 ls5 c5),(6,i6 (fr:Int)),(7,aL A9 zs11 c10),(18,aL A9 zs11 c10),(19,i6 (zs11.length:Int)),(20,i6 (i:Int))]) (fun⟨i,A5,c5,ls5,fr⟩ wl=>i≤zs11.length∧ls5=(lnRun (zs11.take i)).1∧fr=(lnRun (zs11.take i)).2.2.1∧kLine.R 78 wl w1.heap.size (OkFrom w1.heap.size) (aL A5 ls5 c5) ls5∧kCell.R 51 wl w4.heap.size (OkFrom w4.heap.size) (aL A9 zs11 c10) zs11∧w1.heap.size≤wl.heap.size∧w4.heap.size≤wl.heap.size∧Below w.heap.size w wl) (fun⟨i,A5,c5,ls5,fr⟩=>zs11.length-i) (0,(some ⟨w1.heap.size,0,none⟩),0,[],0) ⟨Nat.zero_le _,rfl,rfl,(Kd.R_below r17 b16),r14,((bt b5 b16)).size,(b16).size,(bt (bt b2 b5) b16)⟩ (by kernel_rfl) ?_
  rintro⟨i,A5,c5,ls5,fr⟩ wl ⟨hi,he5,hfr,hr5,hCl,hle5,hleC,HB⟩
  have hat_:=fun(h_:i<zs11.length)=>cellsAll_att hz (zs11.getD i cell0) (by rw[←ez12]; exact getD_mem cell0 h_)
  obtain⟨hs1_,hs2_,hs3_,hs4_,hs5_⟩:=ln_sub (zs:=zs11) (i:=i) (by omega)
  have hl5_:ls5.length≤i:=by rw[he5]; exact hs5_
  rw[←hfr]at hs1_ hs2_ hs3_
  have hrun_:lnRun (zs11.take i)=(ls5,(lnRun (zs11.take i)).2.1,fr,i):=by rw[he5,hfr]; exact Prod.ext rfl (Prod.ext rfl (Prod.ext rfl hs4_))
  refine sq (X_region ?_)
  by_cases c18:(i:Int)<(zs11.length:Int)
  ·refine xr1 1 [(21,.eq bT)] [(21,bT)] [] (dT c18) ?_
   refine nl (sq (ct (sk (sq (bk (sg (xr0 1 [(22,nv i)] [21] ?_)))))))
   obtain⟨ad19,B22,c23,a20,c21,l24,C25⟩:=Kd.atCell (Kd.R_C hCl) (i:=(i:Int)) (by omega) (by omega)
   replace c21:CellsAt wl (ad19.add ((i:Int).toNat*6)) (c6L (zs11.getD i cell0) (aL B22 (zs11.getD i cell0).attrs c23)):=c21
   replace l24:(zs11.getD i cell0).attrs.length≤c23:=l24
   replace C25:kAttr.C wl B22 ((zs11.getD i cell0).attrs.length) (zs11.getD i cell0).attrs:=C25
   refine xw 3 [(23,.idx ad19),(24,.load (.agg (c6A (zs11.getD i cell0) (aL B22 (zs11.getD i cell0).attrs c23))))] [(9,pw wl.heap.size 0),(24,.agg (c6A (zs11.getD i cell0) (aL B22 (zs11.getD i cell0).attrs c23)))] [] (wl.alloc (.cells #[.int .i32 0,s0,i6 0,i6 0,s0,.slice none 0 0] 51)) [A9=some ad19,(0:Int)≤(i:Int),(i:Int)<(zs11.length:Int),la 51 (ad19.add ((i:Int).toNat*6)) (.agg (c6A (zs11.getD i cell0) (aL B22 (zs11.getD i cell0).attrs c23))) wl] ⟨a20,(by omega),(by omega),loadsE rfl rfl c21 0 ⟨by kernel_rfl,by kernel_rfl⟩,trivial⟩ ?_
   obtain⟨w26,w30,b27,k28,z29⟩:=new_world wl #[.int .i32 0,s0,i6 0,i6 0,s0,.slice none 0 0] 51
   rw[w30]
   refine xr0 1 [(8,nv i)] [22] ?_
   refine xst (.agg (c6A (zs11.getD i cell0) (aL B22 (zs11.getD i cell0).attrs c23))) k28 0 (c6A (zs11.getD i cell0) (aL B22 (zs11.getD i cell0).attrs c23)) (fun w31 g32 k33 z34=>?_)
   have r35:=Kd.R_off (Kd.R_below hr5 b27) k28 (by decide) g32
   refine nl (sq (X_region ?_))
   have hat2_:=hat_ (by omega)
   refine xr1 2 [(26,.load (.int .i32 ((zs11.getD i cell0).rune)))] [(26,.int .i32 ((zs11.getD i cell0).rune))] [24] (lc 21 k33 0) ?_
   by_cases c36:(zs11.getD i cell0).rune=10
   ·refine xe1 1 [(27,.eq bT)] [(5,aL A5 ls5 c5),(6,nv fr),(7,aL A9 zs11 c10),(8,nv i),(9,pw wl.heap.size 0),(18,aL A9 zs11 c10),(19,i6 (zs11.length:Int)),(20,nv i),(27,bT)] (bE c36) ?_
    refine nl (ct (sq (X_grow [16] 18 (tf 0 18) (by kernel_rfl) (by kernel_rfl) (by kernel_rfl) (fun wd37 b38 h39=>?_))))
    obtain⟨A40,A41⟩:∃ A_,(if c10=fr then A9 else A9.map (·.add (fr*6)))=A_:=⟨_,rfl⟩
    have C42:kCell.C wl A40 (i-fr) ((zs11.take i).drop fr):=by have h:=RX.Kd.C_lh (Kd.R_C hCl) (i:=fr) (j:=i) (cap:=c10) (by omega) (by omega) (by omega); first|(rw[←A41]; exact h)
    refine XB_runC (fuel':=7) (Below.refl _ _) [0,1,2,3,4,6,7,9,10,11,12] [(32,.eq (i6 ((i:Int)-(fr:Int)))),(35,.load (aL B22 (zs11.getD i cell0).attrs c23)),(40,.as (.slice A40 (i-fr) (c10-fr)))] [.slice A5 ls5.length c5,i6 (fr:Int),i6 (i:Int),i6 (fr:Int),i6 ((i:Int)-(fr:Int)),pw wl.heap.size 5,.slice B22 ((zs11.getD i cell0).attrs.length) c23,.slice A9 zs11.length c10,i6 (fr:Int),i6 (i:Int),.slice A40 (i-fr) (c10-fr)] #[true,true,true,true,true,false,true,true,false,true,true,true,true,false,false,false,false,false] [(28,aL A5 ls5 c5),(29,nv fr),(32,i6 ((i:Int)-(fr:Int))),(35,aL B22 (zs11.getD i cell0).attrs c23),(40,.slice A40 (i-fr) (c10-fr))] [5,6,9,27] (fun w_=>[i6 (IntKind.i64.wrap ((i:Int)-(fr:Int)))=i6 ((i:Int)-(fr:Int)),la 49 (⟨wl.heap.size,5,none⟩) (aL B22 (zs11.getD i cell0).attrs c23) w_,RunsAs Tryz.prog [(37,aL A9 zs11 c10),(38,i6 (fr:Int)),(39,i6 (i:Int))] (Go.Op.slice 39 (Go.Operand.tmp 37) (some (Go.Operand.tmp 38)) (some (Go.Operand.tmp 39)) none) 39 (.slice A40 (i-fr) (c10-fr)) w_]) (fun w_ hC_=>⟨wr_i64 (by omega) (by omega),loads1 rfl (Blk.cell (Blk.below k33 (bt b38 hC_)) 5 _ rfl),(A41▸RX.runs_slice_lh (i:=(fr:Int)) (j:=(i:Int)) rfl rfl rfl rfl rfl (by omega) (by omega) (by omega)),trivial⟩) ?_
    refine XB_mid (fuel':=6) 5 #[true,true,true,true,true,true,true,true,false,true,true,true,true,false,false,false,false,false] _ rfl (by kernel_rfl) (by kernel_rfl) rfl ?_
    refine xw 1 [] [(33,.slice (some ⟨wd37.heap.size,0,none⟩) 0 0)] [] (wd37.alloc (.cells #[] 57)) [] trivial ?_
    obtain⟨w43,w47,b44,k45,z46⟩:=new_world wd37 #[] 57
    rw[w47]
    refine nl ?_
    refine⟨b44,?_⟩
    refine XB_mid (fuel':=5) 8 (tf 13 5) _ rfl (by kernel_rfl) (by kernel_rfl) rfl ?_
    have r48:=Kd.R_litB kAttr (W:=wd37) (e:=57) (cs:=#[]) [] k45 (repsAttr []) (Nat.le_of_ble_eq_true (by kernel_rfl))
    have B49:Below wl.heap.size wl w43:=(bt (bt (bg b27 g32 (Nat.le_refl _)) b38) b44)
    refine XL_appendAll (c':=c23) kAttr rfl rfl rfl wd37.heap.size 57 (.agg #[s0,i6 0,i6 0,s0]) 48 Tryz.underlying49 info57 rfl (by decide) (by omega) ([]) ((zs11.getD i cell0).attrs) (by kernel_rfl) r48 (Kd.C_below C25 B49) kAttr_KM (b44).size (by simp only[List.length_nil]; omega) ?_
    intro A50 c51 w52 r53 c54 g55 l56 a57
    have B58:Below w31.heap.size w31 w52:=(bgo (bt b38 b44) g55 l56 (b38).size)
    have B59:Below wl.heap.size wl wd37:=(bt (bg b27 g32 (Nat.le_refl _)) b38)
    have e62:([]++((zs11.getD i cell0).attrs))=((zs11.getD i cell0).attrs):=List.nil_append _
    rw[e62]at r53 ⊢
    refine nl ?_
    refine⟨(bgo b44 g55 l56 (Nat.le_refl _)),?_⟩
    refine XB_mid (fuel':=4) 13 (tf 14 4) _ rfl (by kernel_rfl) (by kernel_rfl) rfl ?_
    refine xc 105 ent105 [.slice A40 (i-fr) (c10-fr)] (by have h_:=r21text_any A40 (c10-fr) ((zs11.take i).drop fr) _ (by rw[show ((zs11.take i).drop fr).length=(i-fr)from by rw[List.length_drop,List.length_take]; omega]; exact(Kd.C_below C42 (bgo B49 g55 l56 (B59).size))) (by rw[List.length_drop,List.length_take]; omega) (fun c_ h_=>sc_letL c_ (by rw[←ez12]; exact List.mem_of_mem_take (List.mem_of_mem_drop h_))); rw[show ((zs11.take i).drop fr).length=(i-fr)from by rw[List.length_drop,List.length_take]; omega]at h_; exact h_) ?_
    rintro e w63 ⟨rfl,b64⟩; refine⟨_,rfl,?_⟩
    refine nl ?_
    have B65:Below wd37.heap.size wd37 w63:=(bt (bgo b44 g55 l56 (Nat.le_refl _)) b64)
    refine⟨B65,?_⟩
    refine XB_runC (fuel':=3) B65 [14] [] [.agg #[i6 (fr:Int),i6 ((i:Int)-(fr:Int)),.slice A50 (((zs11.getD i cell0).attrs).length) c51,sT (lnText ((zs11.take i).drop fr))]] (tf 15 3) [(42,.agg #[nv fr,i6 ((i:Int)-(fr:Int)),.slice A50 (((zs11.getD i cell0).attrs).length) c51,sT (lnText ((zs11.take i).drop fr))])] [29,32,33,35,36,40,41] (fun w_=>[]) (fun w_ hC_=>trivial) ?_
    refine XB_mid (fuel':=2) 15 (tf 16 2) _ rfl (by kernel_rfl) (by kernel_rfl) rfl ?_
    refine xw 1 [] [(43,.slice (some ⟨w63.heap.size,0,none⟩) 1 1)] [42] (w63.alloc (.cells #[i6 (fr:Int),i6 ((i:Int)-(fr:Int)),.slice A50 (((zs11.getD i cell0).attrs).length) c51,sT (lnText ((zs11.take i).drop fr))] 78)) [] trivial ?_
    obtain⟨w66,w70,b67,k68,z69⟩:=new_world w63 #[i6 (fr:Int),i6 ((i:Int)-(fr:Int)),.slice A50 (((zs11.getD i cell0).attrs).length) c51,sT (lnText ((zs11.take i).drop fr))] 78
    rw[w70]
    refine nl ?_
    refine⟨(bt B65 b67),?_⟩
    refine XB_act (fuel':=1) 16 (tf 17 1) _ rfl (by kernel_rfl) rfl (by kernel_rfl) rfl ?_
    obtain⟨okp71,M72,hok73⟩:=Kd.M_rowApart (Kd.R_below r53 b64) (Nat.le_trans hle5 (Nat.le_trans (Nat.le_trans b27.size g32.size) b38.size)) (Kd.R_below r35 (bt B58 b64)) (by decide)
    rw[←w70]
    refine XL_append kLine rfl rfl rfl w1.heap.size 78 (.agg #[i6 0,i6 0,.slice none 0 0,s0]) 56 Tryz.underlying66 info78 rfl (by decide) (by omega) ls5 (⟨(fr:Int),(i:Int)-(fr:Int),((zs11.getD i cell0).attrs),(lnText ((zs11.take i).drop fr))⟩:LineA) [i6 (fr:Int),i6 ((i:Int)-(fr:Int)),.slice A50 (((zs11.getD i cell0).attrs).length) c51,sT (lnText ((zs11.take i).drop fr))] okp71 (by kernel_rfl) (kLine_M (x:=(⟨(fr:Int),(i:Int)-(fr:Int),((zs11.getD i cell0).attrs),(lnText ((zs11.take i).drop fr))⟩:LineA)) M72) hok73 (Kd.R_below r35 (bt B58 b64)) (Nat.le_trans hle5 (Nat.le_trans (Nat.le_trans (Nat.le_trans (Nat.le_trans (Nat.le_trans b27.size g32.size) b38.size) b44.size) g55.size) b64.size)) (by first|omega|(simp; omega)) ?_
    intro A74 c75 w76 r77 c78 g79 l80 a81
    have B84:Below wl.heap.size wl w63:=(bt (bgo B49 g55 l56 (B59).size) b64)
    have r83:=Kd.R_apart (Kd.R_below hCl B84) (Kd.R_below r35 (bt B58 b64)) (by decide) g79
    refine nl (XB_pure (fuel':=0) [17] [] [aL A74 (ls5++[(⟨(fr:Int),(i:Int)-(fr:Int),((zs11.getD i cell0).attrs),(lnText ((zs11.take i).drop fr))⟩:LineA)]) c75] (tf 18 0) [(5,aL A74 (ls5++[(⟨(fr:Int),(i:Int)-(fr:Int),((zs11.getD i cell0).attrs),(lnText ((zs11.take i).drop fr))⟩:LineA)]) c75),(7,aL A9 zs11 c10),(8,i6 (i:Int)),(18,aL A9 zs11 c10),(19,i6 (zs11.length:Int)),(20,i6 (i:Int))] (fun w_=>[]) (fun _ _ _ _ h=>h) (fun w_=>by kernel_rfl) rfl (fun w_=>trivial) ?_)
    refine XB_done (by kernel_rfl) ?_
    refine rg (xr1 3 [(46,.eq (i6 ((i:Int)+1)))] [(6,i6 ((i:Int)+1))] [8] (w6 ((i:Int)+1)) ?_)
    refine nl (rg (xr1 2 [(47,.eq (i6 ((i:Int)+1)))] [(20,i6 ((i:Int)+1))] [] (w6 ((i:Int)+1)) ?_))
    refine nl ?_
    have hnl_:=lnRun_nl (cs:=(zs11.take i)) c36; rw[←cells_take (by omega),hrun_]at hnl_
    have heq_:(⟨(fr:Int),((lnRun (zs11.take i)).2.1.length:Int),(zs11.getD i cell0).attrs,runesBytes (lnRun (zs11.take i)).2.1⟩:LineA)=⟨(fr:Int),(i:Int)-(fr:Int),(zs11.getD i cell0).attrs,lnText ((zs11.take i).drop fr)⟩:=by rw[hs3_,show ((i-fr:Nat):Int)=(i:Int)-(fr:Int)from by omega,hs2_]; rfl
    rw[heq_]at hnl_
    have B87:Below w.heap.size w wd37:=(bt (bg (bt HB b27) g32 (HB).size) b38)
    have B88:Below w.heap.size w w76:=(bgo (bt (bgo (bt (bt (bg (bt HB b27) g32 (HB).size) b38) b44) g55 l56 (B87).size) b64) g79 l80 (b2).size)
    refine⟨(i+1,A74,c75,(ls5++[(⟨(fr:Int),(i:Int)-(fr:Int),((zs11.getD i cell0).attrs),(lnText ((zs11.take i).drop fr))⟩:LineA)]),i+1),by kernel_rfl,?_,?_⟩
    ·exact⟨by omega,by rw[hnl_],by rw[hnl_],r77,r83,(Nat.le_trans hle5 (Nat.le_trans (Nat.le_trans (Nat.le_trans (Nat.le_trans (Nat.le_trans (Nat.le_trans b27.size g32.size) b38.size) b44.size) g55.size) b64.size) g79.size)),(Nat.le_trans hleC (Nat.le_trans (Nat.le_trans (Nat.le_trans (Nat.le_trans (Nat.le_trans (Nat.le_trans b27.size g32.size) b38.size) b44.size) g55.size) b64.size) g79.size)),B88⟩
    (try dsimp only); omega
   refine xe1 1 [(27,.eq bF)] [(5,aL A5 ls5 c5),(6,nv fr),(7,aL A9 zs11 c10),(8,nv i),(9,pw wl.heap.size 0),(18,aL A9 zs11 c10),(19,i6 (zs11.length:Int)),(20,nv i),(27,bF)] (bN c36) ?_
   refine nl (cf (sk (rg (xr1 2 [(47,.eq (i6 ((i:Int)+1)))] [(20,i6 ((i:Int)+1))] [8,9,27] (w6 ((i:Int)+1)) ?_))))
   refine nl ?_
   have htx_:=lnRun_tx (cs:=(zs11.take i)) c36; rw[←cells_take (by omega),hrun_]at htx_
   refine⟨(i+1,A5,c5,ls5,fr),by kernel_rfl,?_,?_⟩
   ·exact⟨by omega,by rw[htx_],by rw[htx_],r35,(Kd.R_below hCl (bg b27 g32 (Nat.le_refl _))),(Nat.le_trans hle5 (Nat.le_trans b27.size g32.size)),(Nat.le_trans hleC (Nat.le_trans b27.size g32.size)),(bg (bt HB b27) g32 (HB).size)⟩
   (try dsimp only); omega
  refine xr1 1 [(21,.eq bF)] [(21,bF)] [] (dF c18) ?_
  refine nl (sq (cf (X_exit (sg (xe0 3 [(2,aL A5 ls5 c5),(3,i6 0)] ?_)))))
  refine nl (X_ret (rj [.slice A5 ls5.length c5,i6 0] hR_ ?_))
  have hxi:zs11.take i=zs11:=List.take_of_length_le (by omega)
  rw[hxi,ez12]at he5
  have hz0_:lnErr xs=0:=by omega
  have hf_:lnOf xs=(lnRun (cellsAll xs)).1:=if_pos hz0_
  rw[hz0_]
  exact⟨_,_,ls5,he5.trans hf_.symm,rfl,(RX.Kd.R_len hr5).2,Kd.R_low hr5 (b2).size,HB⟩
 refine xr1 1 [(13,.eq bT)] [(13,bT)] [12] (nT c3) ?_
 refine nl (ct (sg (xe0 3 [(2,.slice none 0 0),(3,i6 (lnErr xs:Int))] ?_)))
 refine nl (X_ret (rj [.slice none 0 0,i6 (lnErr xs:Int)] hR_ ?_))
 have hf_:lnOf xs=[]:=if_neg (by omega)
 exact⟨none,0,[],hf_.symm,rfl,Nat.le_refl _,Kd.R_nil _ _ _ _ _,b2⟩
theorem r21txt_any (A:Option Addr)(c:Nat)(xs:List OpA)(w:World)(hx:kOp.C w A xs.length xs)(hn:xs.length≤1100000)(hz:∀ i,i<xs.length→opSz (xs.getD i op0))(hL:(cellsAll xs).length≤100000000):Rt 39 #[.slice A xs.length c] w (.tuple #[sT (if isDoc xs=true then lnText (cellsAll xs)else ByteArray.empty),i6 ((if isDoc xs=true then 0 else 9:Nat):Int)]):=by
 refine en Tryz.func39 rfl 12 [(0,aL A xs c)] (fun R_ hR_=>?_)
 refine sg (xe0 2 [(0,aL A xs c)] ?_)
 refine nl (sg (xr0 1 [(5,aL A xs c)] [] ?_))
 refine xc 107 ent107 [aL A xs c] (r10doc_any _ _ xs _ hx hn hz) ?_
 rintro e w1 ⟨rfl,b2⟩; refine⟨_,rfl,?_⟩
 refine xr0 1 [(4,.bool (isDoc xs))] [5,6] ?_
 refine nl (sq (sg (xr0 1 [(7,.bool (isDoc xs))] [4] ?_)))
 by_cases c3:isDoc xs=true
 ·rw[show (isDoc xs:Bool)=true from by simpa using c3]
  refine xr0 1 [(8,bF)] [7] ?_
  refine nl (cf (sk (sg (xe0 1 [(9,aL A xs c)] ?_))))
  refine xc 52 ent52 [aL A xs c] (r10cells_any _ _ xs _ (Kd.C_below hx b2) hn hz hL) ?_
  rintro e w10 ⟨A4,c_5,zs6,ez7,rfl,l8,r9,b11⟩; refine⟨_,rfl,?_⟩
  have hzl_:zs6.length=(cellsAll xs).length:=by rw[ez7]
  refine xc 105 ent105 [aL A4 zs6 c_5] (r21text_any _ _ zs6 _ (Kd.R_C r9) (by omega) (fun c_ h_=>sc_letL c_ (by rw[←ez7]; exact h_))) ?_
  rintro e w12 ⟨rfl,b13⟩; refine⟨_,rfl,?_⟩
  refine xe0 2 [(2,sT (lnText zs6)),(3,i6 0)] ?_
  refine nl (X_ret (rj [sT (lnText zs6),i6 0] hR_ ?_))
  rw[if_pos c3,if_pos c3,←ez7]
  exact⟨rfl,(bt (bt b2 b11) b13)⟩
 rw[show (isDoc xs:Bool)=false from by simpa using c3]
 refine xr0 1 [(8,bT)] [7] ?_
 refine nl (ct (sg (xe0 2 [(2,sT (⟨#[]⟩:ByteArray)),(3,i6 9)] ?_)))
 refine nl (X_ret (rj [sT (⟨#[]⟩:ByteArray),i6 9] hR_ ?_))
 rw[if_neg c3,if_neg c3]
 exact⟨rfl,b2⟩
end Go.Proofs.YtgphmfnkeolbcaaGreatDoor
set_option linter.unusedVariables false
set_option linter.unusedSimpArgs false
set_option maxRecDepth 100000
namespace Go.Proofs.YtgphmfnkeolbcaaGreatDoor.RX
open Go Go.RowKit Go.Proofs.YtgphmfnkeolbcaaGreatDoorW.PrintWords
def LiesO (e sz:Nat)(ok:Nat→Prop)(w:World)(B:Option Addr)(m c:Nat):Prop:=
  m≤c∧c≤9223372036854775807∧((B=none∧c=0)∨∃ g cs,B=some ⟨g,0,none⟩∧ok g∧RX.Blk w g e cs∧cs.size=c*sz)
def WroteO (e:Nat)(ok:Nat→Prop)(w w1:World):Prop:=∃ r,w.grownBy w1 r∧∀ g,r=some g→ok g∧∃ cs cs',RX.Blk w g e cs∧RX.Blk w1 g e cs'∧cs'.size=cs.size
structure SpoilO (es ok:Nat→Prop) (w w':World):Prop where
  os:w'.os=w.os
  tape:w'.tape=w.tape
  output:w'.output=w.output
  size:w.heap.size≤w'.heap.size
  k:∀ g,g<w.heap.size→w'.heap[g]?=w.heap[g]?∨(ok g∧∃ e cs cs',es e∧RX.Blk w g e cs∧RX.Blk w' g e cs'∧cs'.size=cs.size)
theorem SpoilO.refl (es ok:Nat→Prop)(w:World):SpoilO es ok w w:=⟨rfl,rfl,rfl,Nat.le_refl _,fun _ _=>.inl rfl⟩
theorem SpoilO.of_wrote {es ok:Nat→Prop}{e:Nat}{w w1:World}(h:WroteO e ok w w1)(he:es e):SpoilO es ok w w1:=by
  obtain⟨r,hg,hr⟩:=h
  refine⟨hg.os,hg.tape,hg.output,hg.size,fun g hlt=>?_⟩
  by_cases e1:some g=r
  · obtain⟨h1,cs,cs',h2,h3,h4⟩:=hr g e1.symm
    exact .inr ⟨h1,e,cs,cs',he,h2,h3,h4⟩
  · exact .inl (hg.block g hlt e1)
theorem SpoilO.trans {es ok:Nat→Prop}{a b c:World}(h:SpoilO es ok a b)(k:SpoilO es ok b c):SpoilO es ok a c:=by
  refine⟨k.os.trans h.os,k.tape.trans h.tape,k.output.trans h.output,Nat.le_trans h.size k.size,fun g hg=>?_⟩
  rcases h.k g hg with h1|⟨h1,e,cs,cs',he,h2,h3,h4⟩
  · rcases k.k g (Nat.lt_of_lt_of_le hg h.size)with k1|⟨k1,e,cs,cs',he,k2,k3,k4⟩
    · exact .inl (k1.trans h1)
    · exact .inr ⟨k1,e,cs,cs',he,h1.symm.trans k2,k3,k4⟩
  · rcases k.k g (Nat.lt_of_lt_of_le hg h.size)with k1|⟨k1,e2,cs2,cs3,he2,k2,k3,k4⟩
    · exact .inr ⟨h1,e,cs,cs',he,h2,k1.trans h3,h4⟩
    · have e0:some (Obj.cells cs' e (0,0))=some (Obj.cells cs2 e2 (0,0)):=(show b.heap[g]?=_ from h3).symm.trans k2
      injection e0 with e0
      injection e0 with e1 e3
      subst e1; subst e3
      exact .inr ⟨h1,e,cs,cs3,he,h2,k3,k4.trans h4⟩
theorem SpoilO.blk {es ok:Nat→Prop}{w w1:World}(h:SpoilO es ok w w1){g t:Nat}{cs:Array Value}(hb:RX.Blk w g t cs):∃ cs',RX.Blk w1 g t cs'∧cs'.size=cs.size:=by
  rcases h.k g (Blk.lt hb)with h1|⟨_,e,cs1,cs',_,h2,h3,h4⟩
  · exact⟨cs,h1.trans hb,rfl⟩
  · have e0:some (Obj.cells cs1 e (0,0))=some (Obj.cells cs t (0,0)):=(show w.heap[g]?=_ from h2).symm.trans hb
    injection e0 with e0
    injection e0 with e1 e3
    subst e1; subst e3
    exact⟨cs',h3,h4⟩
theorem SpoilO.other {es ok:Nat→Prop}{w w1:World}(h:SpoilO es ok w w1){g t:Nat}{cs:Array Value}(hb:RX.Blk w g t cs)(ht:¬es t):RX.Blk w1 g t cs:=by
  rcases h.k g (Blk.lt hb)with h1|⟨_,e,cs1,cs',he,h2,h3,h4⟩
  · exact h1.trans hb
  · have e0:some (Obj.cells cs1 e (0,0))=some (Obj.cells cs t (0,0)):=(show w.heap[g]?=_ from h2).symm.trans hb
    injection e0 with e0
    injection e0 with _ e3
    subst e3
    exact absurd he ht
theorem SpoilO.spoilt {es ok:Nat→Prop}{w w1:World}{lo hi:Nat}(h:SpoilO es ok w w1)(hok:∀ g,g<w.heap.size→ok g→lo≤g∧g<hi)(hl:lo≤w.heap.size):Spoilt lo hi w w1:=
  ⟨⟨h.os,h.tape,h.output,h.size,fun g hg=>(h.k g (Nat.lt_of_lt_of_le hg hl)).resolve_right fun⟨a,_⟩=>by have:=(hok g (Nat.lt_of_lt_of_le hg hl) a).1; omega⟩,
    fun g h1 h2=>(h.k g h2).resolve_right fun⟨a,_⟩=>by have:=(hok g h2 a).2; omega⟩
theorem LiesO.below {e sz:Nat}{ok:Nat→Prop}{w w1:World}{B:Option Addr}{m c:Nat}(hb:Below w.heap.size w w1)(h:LiesO e sz ok w B m c):LiesO e sz ok w1 B m c:=by
  obtain⟨h1,h2,h⟩:=h
  refine⟨h1,h2,?_⟩
  rcases h with h|⟨g,cs,h,h3,h4,h5⟩
  · exact .inl h
  · exact .inr ⟨g,cs,h,h3,Blk.below h4 hb,h5⟩
theorem LiesO.spoil {e sz:Nat}{ok es ok':Nat→Prop}{w w1:World}{B:Option Addr}{m c:Nat}(h:LiesO e sz ok w B m c)(hs:SpoilO es ok' w w1):LiesO e sz ok w1 B m c:=by
  obtain⟨h1,h2,h⟩:=h
  refine⟨h1,h2,?_⟩
  rcases h with h|⟨g,cs,h,h3,h4,h5⟩
  · exact .inl h
  · obtain⟨cs',h6,h7⟩:=hs.blk h4
    exact .inr ⟨g,cs',h,h3,h6,h7.trans h5⟩
theorem LiesO.of_R {α:Type}{d:Kd α}{e:Nat}{w:World}{base:Nat}{ok ok':Nat→Prop}{B:Option Addr}{m c:Nat}{xs:List α}(h:d.R e w base ok (.slice B m c) xs)(hok:∀ k,base≤k→ok k→k<w.heap.size→ok' k):LiesO e d.sz ok' w B m c:=by
  obtain⟨h0,inner,ho⟩:=h
  rcases ho.1.2 with ⟨h1,h2⟩|⟨g,cap,cur,he,hb,hh,hn,hm,hs,_⟩
  · injection h1 with a b c'
    subst a; subst b; subst c'
    exact⟨Nat.le_refl _,by decide,.inl ⟨rfl,rfl⟩⟩
  · injection he with a b c'
    subst a; subst b; subst c'
    exact⟨hn,hm,.inr ⟨g,cur,rfl,hok g hb (h0 g rfl) (Array.getElem?_eq_some_iff.1 hh).1,hh,hs⟩⟩
theorem LiesO.at {e sz:Nat}{ok:Nat→Prop}{w:World}{B:Option Addr}{m c:Nat}(h:LiesO e sz ok w B m c)(h0:0<m):∃ g cs,B=some ⟨g,0,none⟩∧ok g∧RX.Blk w g e cs∧m*sz≤cs.size:=by
  obtain⟨h1,_,h⟩:=h
  rcases h with ⟨_,h⟩|⟨g,cs,h,h3,h4,h5⟩
  · omega
  · exact⟨g,cs,h,h3,h4,by rw[h5]; exact Nat.mul_le_mul_right _ h1⟩
theorem run_append_liesO {P:Program}{w W:World}(t ty e:TypeId)(i:TypeInfo)(z:Value)(ht:P.underlying t=some (.slice e))(hi:P.info? e=some i)(hz:i.zero=some z)(hzs:z.cells.size=i.size)(hsz:0<i.size){ok:Nat→Prop}(hok:∀ g,W.heap.size≤g→ok g){B:Option Addr}{n c:Nat}(hL0:LiesO e i.size ok W B n c)(hW:Below W.heap.size W w)
    (a:Addr) (c':Nat) (news:List Value) (hl:news.length=i.size) (hnews:∀ j u,news[j]?=some u→w.cell? (a.add j)=some u) (h1:∀ u∈news,u.oneCell'=true) (hbytes:(n+1)*i.bytes≤140737488355328) (hn:n≤140737488355328):
    ∃ A1 c1 w',(Builtin.append_ #[t,t] ty #[.slice B n c,.slice (some a) 1 c']).run P w=.ok (.slice A1 (n+1) c1) w'∧WroteO e ok W w'∧LiesO e i.size ok w' A1 (n+1) c1:=by
  have hL:=hL0.below hW
  obtain⟨_,_,hL1⟩:=hL0
  obtain⟨hnc,hcm,hL⟩:=hL
  rcases hL with ⟨rfl,rfl⟩|⟨g,cur,rfl,hg,hb,hs⟩
  · obtain rfl:n=0:=by omega
    have hr:=run_append_nil (P:=P) w t ty e i z ht hi hz a 1 c' news (by omega) hnews (by omega) (by omega) (by omega)
    refine⟨_,_,_,hr,⟨none,?_,fun g hg=>by cases hg⟩,grownCap_ge w 1 0 e,grownCap_le_maxLen w 1 0 e (by decide),.inr ⟨_,_,rfl,hok _ hW.size,heap_alloc_new w.drew _,?_⟩⟩
    · exact⟨hW.os,hW.tape,hW.output,by have:=hW.size; simp; omega,fun k hk _=>(Below.heap_alloc w.drew _ k (Nat.lt_of_lt_of_le hk hW.size)).trans (hW.block k hk)⟩
    · rw[Array.size_append,size_zeroCells,hzs,List.size_toArray,hl]
      have:=grownCap_ge w 1 0 e
      obtain⟨q,hq⟩:=Nat.exists_eq_add_of_le this
      rw[hq,Nat.add_sub_cancel_left,Nat.add_mul,Nat.one_mul]
  · obtain⟨cur',hb0,hs0⟩:∃ cur',RX.Blk W g e cur'∧cur'.size=c*i.size:=by
      rcases hL1 with ⟨h,_⟩|⟨g',cur',he,_,hb0,hs0⟩
      · cases h
      · injection he with he
        injection he with he
        subst he
        exact⟨cur',hb0,hs0⟩
    by_cases hroom:n+1≤c
    · have hfit:n*i.size+news.length≤cur.size:=by
        rw[hl,hs,←Nat.succ_mul]
        exact Nat.mul_le_mul_right _ hroom
      have hr:=run_append_room (P:=P) w t ty e i ht hi g n c cur hb a 1 c' news (by omega) hnews h1 hroom hfit
      refine⟨_,_,_,hr,⟨some g,?_,fun k hk=>by
        injection hk with hk
        subst hk
        refine⟨hg,cur',_,hb0,setRow_heap w g cur _ e _ hb,?_⟩
        simp only[List.size_toArray,List.length_append,List.length_take,List.length_drop,Array.length_toList]
        omega⟩,hroom,hcm,.inr ⟨g,_,rfl,hg,setRow_heap w g cur _ e _ hb,?_⟩⟩
      · exact⟨hW.os,hW.tape,hW.output,by have:=hW.size; simp[World.setRow]; omega,fun k hk hne=>(setRow_other w g k _ (fun e=>hne (by rw[e]))).trans (hW.block k hk)⟩
      · simp only[List.size_toArray,List.length_append,List.length_take,List.length_drop,Array.length_toList]
        omega
    · have hms:n*i.size≤c*i.size:=Nat.mul_le_mul_right _ hnc
      have hr:=run_append_grow (P:=P) w t ty e i z ht hi hz ⟨g,0,none⟩ n c (cur.toList.take (n*i.size)) (by rw[List.length_take,Array.length_toList]; omega) (fun j u hu=>by
        have e2:(⟨g,0,none⟩:Addr).add j=⟨g,j,none⟩:=by unfold Addr.add; split<;>simp_all
        rw[e2,cell_of_row w g j cur e (0,0) hb]
        rw[List.getElem?_take]at hu
        split at hu
        · simpa using hu
        · cases hu) a 1 c' news (by omega) hnews (by omega) (by omega) (growslice_fits (by omega) hbytes)
      refine⟨_,_,_,hr,⟨none,?_,fun g hg=>by cases hg⟩,grownCap_ge w (n+1) c e,grownCap_le_maxLen w (n+1) c e (by unfold maxLen; omega),.inr ⟨_,_,rfl,hok _ hW.size,heap_alloc_new w.drew _,?_⟩⟩
      · exact⟨hW.os,hW.tape,hW.output,by have:=hW.size; simp; omega,fun k hk _=>(Below.heap_alloc w.drew _ k (Nat.lt_of_lt_of_le hk hW.size)).trans (hW.block k hk)⟩
      · rw[Array.size_append,Array.size_append,size_zeroCells,hzs,List.size_toArray,List.size_toArray,hl,List.length_take,Array.length_toList,Nat.min_eq_left (by omega)]
        have:=grownCap_ge w (n+1) c e
        obtain⟨q,hq⟩:=Nat.exists_eq_add_of_le this
        rw[hq,Nat.add_sub_cancel_left,Nat.add_mul,Nat.add_mul,Nat.one_mul]
theorem XL_appendLiesO {P:Program}{N:Nat}{ops:Array Oper}{qs:QS}{rest:List Oper}{o:Oper}{l:Slots}{W:World}{s x:Operand}{t:TypeId}(ho:o.op=.call { callee:=.builtin .append,args:=#[s,x],argTypes:=#[t,t] })(hg:gd ops l o=some true)(hd:okD N o.dst=true)(e:Nat)(z:Value)(size bytes:Nat)
    (ht:P.underlying t=some (.slice e)) (hinfo:(P.info? e).map (fun i=>(i.zero,i.size,i.bytes))=some (some z,size,bytes)) (hz:z.cells.size=size) (hs0:0<size)
    {B:Option Addr} {n c:Nat} {ok:Nat→Prop} (cs:List Value) (hv:evs l [s,x]=some [.slice B n c,.slice (some ⟨W.heap.size,0,none⟩) 1 1]) (hcs:cs.length=size) (h1:cs.all (·.oneCell')=true)
    (hok:∀ g,W.heap.size≤g→ok g) (hL:LiesO e size ok W B n c) (hl:(n+1)*bytes≤140737488355328) (hn0:n≤140737488355328)
    (hn:∀ A1 c1 w1,WroteO e ok W w1→LiesO e size ok w1 A1 (n+1) c1→XL P N ops rest qs (putS l o.dst (.slice A1 (n+1) c1)) w1):XL P N ops (o::rest) qs l (W.alloc (.cells cs.toArray e)):=by
  obtain⟨i0,hi0,hzz⟩:=Option.map_eq_some_iff.1 hinfo
  simp only[Prod.mk.injEq]at hzz
  obtain⟨hz0,hz1,hz2⟩:=hzz
  subst hz1
  subst hz2
  refine XL_law hd hg fun a ha=>?_
  have he:=evs_ok ha _ _ hv
  simp only[List.map_cons,List.map_nil,List.cons.injEq,and_true]at he
  refine wpList_plain rfl fun K hK=>?_
  obtain⟨A1,c1,w1,hr,hw,hL1⟩:=run_append_liesO (P:=P) (w:=W.alloc (.cells cs.toArray e)) t o.type e i0 z ht hi0 hz0 hz hs0 hok hL ((Below.refl _ W).alloc (Nat.le_refl _) _) ⟨W.heap.size,0,none⟩ 1 cs hcs
    (by simpa using World.news_of_block (cs:=cs.toArray) (t:=e) (fr:=(0,0)) (heap_alloc_new W (.cells cs.toArray e))) (fun u hu=>List.all_eq_true.1 h1 u hu) hl hn0
  unfold Oper.wp execOp
  simp only[ho,resolve,invoke,builtin,Sem.run_bind,Sem.run_pure,Result.andThen_ok,List.map_toArray,List.map_cons,List.map_nil,he.1,he.2,hr]
  exact hK _ _ (hn A1 c1 w1 hw hL1 _ (ha.putS hd _))
theorem XL_spoilO {P:Program}{N:Nat}{ops:Array Oper}{qs:QS}{rest:List Oper}{o:Oper}{l:Slots}{w:World}{t:TypeId}{p x:Operand}(ho:o.op=.store t p x)(hdn:o.dst=none)(hg:gd ops l o=some true)
    {g:Nat} {ok:Nat→Prop} {bt:TypeId} {cs:Array Value} {v:Value} {n:Nat} {ad:Addr} (had:ad=⟨g,0,none⟩) (hp:evs l [p,x]=some [.pointer (some (ad.add n)),v]) (hb:Blk w g bt cs) (hok:ok g) (vs:List Value)
    (hv:v.cells.toList=vs∧sizeP P t=some vs.length) (h1:vs.all (·.oneCell')=true) (hl:n+vs.length≤cs.size)
    (hn:∀ w1,WroteO bt ok w w1→XL P N ops rest qs l w1):XL P N ops (o::rest) qs l w:=
  XL_spoil ho hdn hg had hp hb vs hv h1 hl fun w1 cs' h2 h3 h4=>hn w1 ⟨some g,h2,fun k hk=>by injection hk with hk; subst hk; exact⟨hok,cs,cs',hb,h3,h4⟩⟩
section
variable {p e' e lo hi : Nat} {w w1 : World} {A : Option Addr} {n c i : Nat}
theorem blk_cellsAt {g k:Nat}{cs:Array Value}{vs:List Value}{t:Nat}(h:CellsAt w ((⟨g,0,none⟩:Addr).add k) vs)(hb:RX.Blk w g t cs):∀ j u,vs[j]?=some u→cs[k+j]?=some u:=by
  intro j u hu
  have h1:=h j u hu
  have e2:(⟨g,0,none⟩:Addr).add (k+j)=⟨g,k+j,none⟩:=by unfold Addr.add; split<;>simp_all
  rw[add_add,e2]at h1
  rw[cell_of_row w g (k+j) cs t (0,0) hb]at h1
  exact h1
theorem cellsAt_blk {g k:Nat}{cs:Array Value}{vs:List Value}{t:Nat}(hb:RX.Blk w g t cs)(h:∀ j u,vs[j]?=some u→cs[k+j]?=some u):CellsAt w ((⟨g,0,none⟩:Addr).add k) vs:=by
  intro j u hu
  have e2:(⟨g,0,none⟩:Addr).add (k+j)=⟨g,k+j,none⟩:=by unfold Addr.add; split<;>simp_all
  rw[add_add,e2,cell_of_row w g (k+j) cs t (0,0) hb]
  exact h j u hu
end
theorem setAll_out :∀ (vs:List Value) (cs:Array Value) (n k:Nat),k<n∨n+vs.length≤k→(setAll cs n vs)[k]?=cs[k]?
  | [],_,_,_,_=>rfl
  | v::r,cs,n,k,h=>by
    show (setAll (cs.setIfInBounds n v) (n+1) r)[k]?=_
    rw[List.length_cons]at h
    rw[setAll_out r _ (n+1) k (by omega),Array.getElem?_setIfInBounds_ne (by omega)]
section
variable {e' e : Nat} {ok : Nat → Prop} {w w1 : World} {A : Option Addr} {n c i : Nat}
end
end Go.Proofs.YtgphmfnkeolbcaaGreatDoor.RX

set_option linter.unusedVariables false
set_option maxRecDepth 100000
namespace Go.Proofs.YtgphmfnkeolbcaaGreatDoor.RX
open Go Go.RowKit Go.Proofs.YtgphmfnkeolbcaaGreatDoor Go.Proofs.YtgphmfnkeolbcaaGreatDoorW.PrintWords
def setT (x:OpA)(t:ByteArray):OpA:=⟨x.kind,t,x.vk,x.vn,x.vt,x.count,x.attrs⟩
def setN (x:OpA)(n:Int):OpA:=⟨x.kind,x.text,x.vk,x.vn,x.vt,n,x.attrs⟩
section
variable {e B : Nat} {W0 w w1 : World} {A : Option Addr} {n c : Nat} {xs : List OpA}
theorem MixK.set1 {vs:List (List Value)}{i:Nat}{x':OpA}{cs:List Value}(h:MixK kOp op0 e B W0 w A n c xs)(hl:vs.length=xs.length)(hK:∀ i,i<xs.length→kOp.K W0 (xs.getD i op0) (vs.getD i []))(hR:(kRaw 7).R e w1 B (OkFrom B) (.slice A n c) (vs.set i cs))(hx:kOp.K W0 x' cs):MixK kOp op0 e B W0 w1 A n c (xs.set i x'):=by
  refine⟨vs.set i cs,hR,by rw[List.length_set,List.length_set,hl],fun j hj=>?_⟩
  rw[List.length_set]at hj
  rw[List.getD_eq_getElem?_getD,List.getD_eq_getElem?_getD,List.getElem?_set,List.getElem?_set]
  by_cases e1:i=j
  · subst e1
    rw[if_pos rfl,if_pos rfl,if_pos hj,if_pos (by omega)]
    exact hx
  · rw[if_neg e1,if_neg e1,←List.getD_eq_getElem?_getD,←List.getD_eq_getElem?_getD]
    exact hK j hj
end
variable {P : Program} {N : Nat} {ops : Array Oper} {qs : QS} {rest : List Oper} {o : Oper} {l : Slots}
theorem XL_mixText {e B:Nat}{W0 w:World}{A:Option Addr}{n c:Nat}{xs:List OpA}{t:TypeId}{p x:Operand}(ho:o.op=.store t p x)(hdn:o.dst=none)(hg:gd ops l o=some true){ad:Addr}{i:Int}(s:ByteArray)(hv:evs l [p,x]=some [.pointer (some ((ad.add (i.toNat*7)).add 1)),.string s])(hA:A=some ad)
    (h:MixK kOp op0 e B W0 w A n c xs) (h0:0≤i) (hi:i<n) (ht:sizeP P t=some 1)
    (hn:∀ w1,MixK kOp op0 e B W0 w1 A n c (xs.set i.toNat (setT (xs.getD i.toNat op0) s))→w.grownBy w1 (A.map (·.block))→(∀ k,A.map (·.block)=some k→B≤k)→XL P N ops rest qs l w1):XL P N ops (o::rest) qs l w:=by
  obtain⟨hl1,_⟩:=h.len
  obtain⟨vs,hR,hl,hK⟩:=h
  refine XL_rowpart 7 ho hdn hg B e 1 vs hv hA hR h0 hi [.string s] ⟨rfl,rfl⟩ (by simp only[List.length_singleton]; omega) ht fun w1 h1 h2 h3=>hn w1 (MixK.set1 ⟨vs,hR,hl,hK⟩ hl hK h1 ?_) h2 h3
  obtain⟨A',c',e1,h4,h5⟩:=kOp_K (hK i.toNat (by omega))
  rw[e1]
  exact kOp_K_of (x:=setT (xs.getD i.toNat op0) s) h4 h5
theorem XL_mixCount {e B:Nat}{W0 w:World}{A:Option Addr}{n c:Nat}{xs:List OpA}{t:TypeId}{p x:Operand}(ho:o.op=.store t p x)(hdn:o.dst=none)(hg:gd ops l o=some true){ad:Addr}{i:Int}(s:Int)(hv:evs l [p,x]=some [.pointer (some ((ad.add (i.toNat*7)).add 5)),.int .i64 s])(hA:A=some ad)
    (h:MixK kOp op0 e B W0 w A n c xs) (h0:0≤i) (hi:i<n) (ht:sizeP P t=some 1)
    (hn:∀ w1,MixK kOp op0 e B W0 w1 A n c (xs.set i.toNat (setN (xs.getD i.toNat op0) s))→w.grownBy w1 (A.map (·.block))→(∀ k,A.map (·.block)=some k→B≤k)→XL P N ops rest qs l w1):XL P N ops (o::rest) qs l w:=by
  obtain⟨hl1,_⟩:=h.len
  obtain⟨vs,hR,hl,hK⟩:=h
  refine XL_rowpart 7 ho hdn hg B e 5 vs hv hA hR h0 hi [.int .i64 s] ⟨rfl,rfl⟩ (by simp only[List.length_singleton]; omega) ht fun w1 h1 h2 h3=>hn w1 (MixK.set1 ⟨vs,hR,hl,hK⟩ hl hK h1 ?_) h2 h3
  obtain⟨A',c',e1,h4,h5⟩:=kOp_K (hK i.toNat (by omega))
  rw[e1]
  exact kOp_K_of (x:=setN (xs.getD i.toNat op0) s) h4 h5
section
variable {α : Type} {d : Kd α} {z : α} {e B : Nat} {W0 W w w1 : World} {A A' : Option Addr} {n c m c' : Nat} {xs ys : List α}
theorem XL_appendMixH {s x:Operand}{t:TypeId}(z:α)(ho:o.op=.call { callee:=.builtin .append,args:=#[s,x],argTypes:=#[t,t] })(hg:gd ops l o=some true)(hd:okD N o.dst=true)(e:Nat)(zv:Value)(bytes:Nat)
    (ht:P.underlying t=some (.slice e)) (hinfo:(P.info? e).map (fun i=>(i.zero,i.size,i.bytes))=some (some zv,d.sz,bytes)) (hz:zv.cells.size=d.sz) (hs0:0<d.sz) (hb0:0<bytes)
    (xs ys:List α) (vs2:List (List Value)) (hv:evs l [s,x]=some [.slice A n c,.slice A' m c'])
    (HO:MixK d z e B W0 W A n c xs) (HC:(kRaw d.sz).C W A' m vs2) (hm:ys.length=m) (hK:∀ i,i<m→d.K W0 (ys.getD i z) (vs2.getD i [])) (hbase:B≤W.heap.size) (hl:(xs.length+m)*bytes≤140737488355328)
    (hn:∀ A1 c1 w1,MixK d z e B W0 w1 A1 (xs++ys).length c1 (xs++ys)→W.grownBy w1 (A.map (·.block))→(∀ k,A.map (·.block)=some k→B≤k)→(A1.map (·.block)=A.map (·.block)∨∃ b,A1.map (·.block)=some b∧W.heap.size≤b)→XL P N ops rest qs (putS l o.dst (.slice A1 (xs++ys).length c1)) w1):XL P N ops (o::rest) qs l W:=by
  obtain⟨vs,hR,hlv,hE⟩:=HO
  have hlen2:vs2.length=m:=HC.1
  refine XL_appendAll (kRaw d.sz) ho hg hd B e zv bytes ht hinfo hz hs0 hb0 vs vs2 hv hR HC (fun _ _ h=>h) hbase (by rw[hlv]; exact hl) ?_
  intro A1 c1 w1 hr hc hgr hle hat
  have hlen:(vs++vs2).length=(xs++ys).length:=by simp[hlv,hlen2,hm]
  rw[hlen]at hr ⊢
  refine hn A1 c1 w1 ⟨vs++vs2,hr,hlen,fun i hi=>?_⟩ hgr hle hat
  rw[List.getD_eq_getElem?_getD,List.getD_eq_getElem?_getD]
  by_cases hx:i<xs.length
  · rw[List.getElem?_append_left hx,List.getElem?_append_left (by omega),←List.getD_eq_getElem?_getD,←List.getD_eq_getElem?_getD]
    exact hE i hx
  · rw[List.getElem?_append_right (by omega),List.getElem?_append_right (by omega),hlv,←List.getD_eq_getElem?_getD,←List.getD_eq_getElem?_getD]
    rw[List.length_append]at hi
    exact hK _ (by omega)
end
end Go.Proofs.YtgphmfnkeolbcaaGreatDoor.RX
