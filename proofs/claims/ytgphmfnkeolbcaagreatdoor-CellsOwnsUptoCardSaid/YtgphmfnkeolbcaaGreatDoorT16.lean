/- vellumref06.Canonical: B.can. Conditions: sizes, good operations. -/
import Derived.Test.YtgphmfnkeolbcaaGreatDoorT15
import Derived.Test.YtgphmfnkeolbcaaGreatDoorCanP
set_option linter.unusedVariables false
set_option linter.unusedSimpArgs false
set_option maxRecDepth 100000
namespace Go.Proofs.YtgphmfnkeolbcaaGreatDoor
open Go Go.RowKit Go.Proofs.YtgphmfnkeolbcaaGreatDoorW.PrintWords RX
theorem ent158 :Ent Tryz.prog 158:=ent_of Tryz.func158 (by kernel_rfl) rfl
namespace B
def CLoop (xs out gap:List OpA)(g:Int)(i:Nat):Prop:=CS xs out gap g i∨(i=xs.length+1∧fin out=can xs∧badE out=0∧out.length≤4000000)
theorem cs_bd {xs out gap:List OpA}{g:Int}{i:Nat}(h:CS xs out gap g i)(hb:badE xs=0)(hL:sB xs≤L)(ht:txS xs≤50000000)(hn:xs.length≤1048576):0≤g∧g≤1099511627776∧txS out+txS gap≤50000000∧out.length+gap.length≤3145728:=by
 have h1:=sB_ok h.ok.g
 have h2:=(take_ok hb hL h.i1).2
 have h3:=h.sb
 have h4:=txS_take xs i
 have h5:=h.tx
 have h6:=h.ln
 have h7:=h.i1
 have h8:=h.g0
 have h9:L=1099511627776:=rfl
 have h1:0≤sB out:=by first|exact h1|exact h1.1
 exact⟨h8,by omega,by omega,by omega⟩
theorem fs_pre {xs out gap P:List OpA}{g:Int}{i j:Nat}(h:CS xs out gap g i)(hf:FS out gap P j)(hj:j<gap.length)(hT:txS out+txS gap≤50000000):badE P=0∧pErr (gap.getD j op0)=0∧txS P+(gap.getD j op0).text.size≤50000000:=by
 have h1:=hf.tx
 have h2:txS (gap.take (j+1))=txS (gap.take j)+(gap.getD j op0).text.size:=by rw[take_snocD op0 gap j hj,txS_snoc]
 have h3:=txS_take gap (j+1)
 exact⟨hf.ok.g,(h.gi _ (getD_mem op0 hj)).1,by omega⟩
theorem fs_end {xs out gap P:List OpA}{g:Int}{i:Nat}(h:CS xs out gap g i)(hf:FS out gap P gap.length):P=gap.foldl push out∧badE P=0∧txS P≤txS out+txS gap∧P.length≤out.length+gap.length∧(∀ o∈P,fine o):=by
 have h1:=hf.tx
 rw[List.take_length]at h1
 exact⟨fs_all hf rfl,hf.ok.g,h1,hf.ln,hf.ok.f⟩
end B
theorem RX.MixK.cut {α:Type}{d:Kd α}{z:α}{e B:Nat}{W0 w:World}{A:Option Addr}{n c m:Nat}{xs:List α}(h:RX.MixK d z e B W0 w A n c xs)(hm:m≤n):RX.MixK d z e B W0 w A m c (xs.take m):=by
 obtain⟨hl1,_⟩:=h.len
 obtain⟨vs,hR,hl,hK⟩:=h
 refine⟨vs.take m,RX.Kd.R_take hR hm,by rw[List.length_take,List.length_take,hl],fun i hi=>?_⟩
 rw[List.length_take]at hi
 rw[List.getD_eq_getElem?_getD,List.getElem?_take,if_pos (by omega),List.getD_eq_getElem?_getD,List.getElem?_take,if_pos (by omega),←List.getD_eq_getElem?_getD,←List.getD_eq_getElem?_getD]
 exact hK i (by omega)
def RX.OpK (W0 w:World)(A:Option Addr)(n:Nat)(xs:List OpA):Prop:=n≤9223372036854775807∧∀ i:Int,0≤i→i<n→∃ ad B c,A=some ad∧CellsAt w (ad.add (i.toNat*7)) (opV (xs.getD i.toNat op0) B c)∧(xs.getD i.toNat op0).attrs.length≤c∧kAttr.C W0 B (xs.getD i.toNat op0).attrs.length (xs.getD i.toNat op0).attrs
theorem RX.OpK.op {W0 w:World}{A:Option Addr}{n:Nat}{xs:List OpA}(h:RX.OpK W0 w A n xs){i:Int}(h0:0≤i)(h1:i<n):∃ ad B c,A=some ad∧CellsAt w (ad.add (i.toNat*7)) (opV (xs.getD i.toNat op0) B c)∧(xs.getD i.toNat op0).attrs.length≤c∧kAttr.C W0 B (xs.getD i.toNat op0).attrs.length (xs.getD i.toNat op0).attrs:=h.2 i h0 h1
theorem RX.OpK.below {W0 w w1:World}{A:Option Addr}{n:Nat}{xs:List OpA}(h:RX.OpK W0 w A n xs)(hb:Below w.heap.size w w1):RX.OpK W0 w1 A n xs:=⟨h.1,fun i h0 h1=>by
 obtain⟨ad,B,c,a,b,d⟩:=h.2 i h0 h1
 exact⟨ad,B,c,a,cells_below b hb,d⟩⟩
theorem RX.OpK.of_mix {e B:Nat}{W0 w:World}{A:Option Addr}{n c:Nat}{xs:List OpA}(h:RX.MixK kOp op0 e B W0 w A n c xs)(hB:Below W0.heap.size W0 w):RX.OpK W0 w A n xs:=⟨(MixK.C h hB).2.1,fun i h0 h1=>MixK.op h h0 h1⟩
set_option maxHeartbeats 8000000 in
theorem r6canonical_any (A:Option Addr)(c:Nat)(xs:List OpA)(W0 w:World)(hW:Below W0.heap.size W0 w)(hx:RX.OpK W0 w A xs.length xs)(hb:badE xs=0)(hsB:sB xs≤B.L)(hn:xs.length≤1048576)(hz:∀ i,i<xs.length→opSz (xs.getD i op0))(ht:B.txS xs≤50000000):
  Calls Tryz.prog 158 #[aL A xs c] w fun e w'=>∃ A1 c1,e=.returned (aL A1 (B.can xs) c1)∧MixK kOp op0 102 w.heap.size W0 w' A1 (B.can xs).length c1 (B.can xs)∧Below w.heap.size w w':=by
 have hfx:=fun o_ (h_:o_∈xs)=>(by obtain⟨i_,hi_,e_⟩:=List.mem_iff_getElem.1 h_; have h2_:=hz i_ hi_; rw[List.getD_eq_getElem?_getD,List.getElem?_eq_getElem hi_]at h2_; rw[←e_]; exact B.fine_of h2_:B.fine o_)
 have hpl:xs.length≤9223372036854775807:=hx.1
 refine en Tryz.func158 rfl 98 [(0,aL A xs c)] (fun R_ hR_=>?_)
 refine sg (xe0 1 [(0,aL A xs c)] ?_)
 refine nl (sg (xw 1 [] [(9,.slice (some ⟨w.heap.size,0,none⟩) 0 0)] [] (w.alloc (.cells #[] 102)) [] trivial ?_))
 obtain⟨w_1,w5,b2,k3,z4⟩:=new_world w #[] 102
 rw[w5]
 refine xr0 1 [(3,.slice (some ⟨w.heap.size,0,none⟩) 0 0)] [9] ?_
 refine nl (sg (xw 1 [] [(10,.slice (some ⟨w_1.heap.size,0,none⟩) 0 0)] [] (w_1.alloc (.cells #[] 102)) [] trivial ?_))
 obtain⟨w_6,w10,b7,k8,z9⟩:=new_world w_1 #[] 102
 rw[w10]
 refine xr0 1 [(4,.slice (some ⟨w_1.heap.size,0,none⟩) 0 0)] [10] ?_
 refine nl (sg (xr0 1 [(5,i6 0)] [] ?_))
 refine nl (sq (sg (xe0 1 [(0,aL A xs c),(3,.slice (some ⟨w.heap.size,0,none⟩) 0 0),(4,.slice (some ⟨w_1.heap.size,0,none⟩) 0 0),(5,i6 0),(6,i6 0)] ?_)))
 refine nl (X_block ?_)
 have hap0:Apt (some ⟨w.heap.size,0,none⟩) (some ⟨w_1.heap.size,0,none⟩):=fun x_ h1_ h2_=>by
  have h3_:w.heap.size=x_:=by injection h1_
  have h4_:w_1.heap.size=x_:=by injection h2_
  have h5_:=Blk.lt k3
  have h6_:w_1.heap.size≤w_1.heap.size:=(Nat.le_refl _)
  omega
 have r11:=Kd.R_litB kOp (W:=w) (e:=102) (cs:=#[]) [] k3 (repsOp0 [] (fun _ h=>by cases h)) (Nat.le_of_ble_eq_true (by kernel_rfl))
 have r12:=Kd.R_litB kOp (W:=w_1) (e:=102) (cs:=#[]) [] k8 (repsOp0 [] (fun _ h=>by cases h)) (Nat.le_of_ble_eq_true (by kernel_rfl))
 refine X_loop (ι:=Nat×List OpA×Option Addr×Nat×List OpA×Option Addr×Nat×Int) (fun⟨i,out,A3,c3,gap,A4,c4,g⟩=>[(0,aL A xs c),(3,aL A3 out c3),(4,aL A4 gap c4),(5,i6 g),(6,i6 (i:Int))]) (fun⟨i,out,A3,c3,gap,A4,c4,g⟩ wl=>i≤xs.length+1∧B.CLoop xs out gap g i∧MixK kOp op0 102 w.heap.size W0 wl A3 out.length c3 out∧MixK kOp op0 102 w.heap.size W0 wl A4 gap.length c4 gap∧Apt A3 A4∧Below w.heap.size w wl) (fun⟨i,out,A3,c3,gap,A4,c4,g⟩=>xs.length+1-i) (0,[],(some ⟨w.heap.size,0,none⟩),0,[],(some ⟨w_1.heap.size,0,none⟩),0,0) ⟨Nat.zero_le _,.inl (B.cs_nil xs),(MixK.nil (z:=op0) (B:=w.heap.size) (W0:=W0) (Kd.R_below r11 b7) (Nat.le_refl _)),(MixK.nil (z:=op0) (B:=w.heap.size) (W0:=W0) r12 (b2).size),hap0,(bt b2 b7)⟩ (by kernel_rfl) ?_
 rintro⟨i,out,A3,c3,gap,A4,c4,g⟩ wl ⟨hi,hcl,hm3,hm4,hap,HB⟩
 refine sq (sg (xr0 3 [(11,nv i),(13,i6 (xs.length:Int))] [] ?_))
 by_cases c15:(i:Int)≤(xs.length:Int)
 ·have hcs:=hcl.resolve_right (fun h_=>by have h2_:=h_.1; omega)
  have hbd:=B.cs_bd hcs hb hsB ht hn
  refine xr1 1 [(14,.eq bT)] [(14,bT)] [11,13] (dT c15) ?_
  refine nl (ct (sk (sq (bk (X_span2 (ι:=Unit) (fun _=>[(0,aL A xs c),(3,aL A3 out c3),(4,aL A4 gap c4),(5,i6 g),(6,i6 (i:Int))]) (fun _ wj=>((i:Int)<(xs.length:Int)→¬insO (xs.getD i op0)∧¬(xs.getD i op0).kind=4)∧MixK kOp op0 102 w.heap.size W0 wj A3 out.length c3 out∧MixK kOp op0 102 w.heap.size W0 wj A4 gap.length c4 gap∧Below w.heap.size w wj) (fun J16=>?_) ?_)))))
  ·refine sq (sg (xr0 3 [(17,nv i),(19,i6 (xs.length:Int))] [14] ?_))
   by_cases c17:(i:Int)<(xs.length:Int)
   ·refine xr1 4 [(20,.eq bT)] [(21,bT),(22,aL A xs c),(23,nv i)] [17,19] (dT c17) ?_
    obtain⟨ad18,B21,c22,a19,c20,l23,C24⟩:=OpK.op (OpK.below hx HB) (i:=(i:Int)) (by omega) (by omega)
    replace c20:CellsAt wl (ad18.add ((i:Int).toNat*7)) (o7L (xs.getD i op0) (aL B21 (xs.getD i op0).attrs c22)):=c20
    replace l23:(xs.getD i op0).attrs.length≤c22:=l23
    replace C24:kAttr.C W0 B21 ((xs.getD i op0).attrs.length) (xs.getD i op0).attrs:=C24
    refine xr 2 [(24,.idx ad18),(25,.load (.agg (o7A (xs.getD i op0) (aL B21 (xs.getD i op0).attrs c22))))] [(25,.agg (o7A (xs.getD i op0) (aL B21 (xs.getD i op0).attrs c22)))] [22,23] [A=some ad18,(0:Int)≤(i:Int),(i:Int)<(xs.length:Int),la 102 (ad18.add ((i:Int).toNat*7)) (.agg (o7A (xs.getD i op0) (aL B21 (xs.getD i op0).attrs c22))) wl] ⟨a19,(by omega),(by omega),loadsE rfl rfl c20 0 ⟨by kernel_rfl,by kernel_rfl⟩,trivial⟩ ?_
    refine xc 100 ent100 [.agg (o7A (xs.getD i op0) (aL B21 (xs.getD i op0).attrs c22))] (r6ins_any (xs.getD i op0) _ _ _ (Kd.C_below C24 (bt hW HB))) ?_
    rintro e w25 ⟨rfl,b26⟩; refine⟨_,rfl,?_⟩
    refine xe0 1 [(0,aL A xs c),(3,aL A3 out c3),(4,aL A4 gap c4),(5,i6 g),(6,nv i),(27,.bool (decide (insO (xs.getD i op0))))] ?_
    refine nl ?_
    by_cases c27:decide (insO (xs.getD i op0))=true
    ·rw[show (decide (insO (xs.getD i op0)):Bool)=true from by simpa using c27]
     refine ct (sg (xr0 3 [(28,aL A4 gap c4),(29,aL A xs c),(30,nv i)] [4,27] ?_))
     obtain⟨ad28,B31,c32,a29,c30,l33,C34⟩:=OpK.op (OpK.below hx (bt HB b26)) (i:=(i:Int)) (by omega) (by omega)
     replace c30:CellsAt w25 (ad28.add ((i:Int).toNat*7)) (o7L (xs.getD i op0) (aL B31 (xs.getD i op0).attrs c32)):=c30
     replace l33:(xs.getD i op0).attrs.length≤c32:=l33
     replace C34:kAttr.C W0 B31 ((xs.getD i op0).attrs.length) (xs.getD i op0).attrs:=C34
     refine xw 3 [(31,.idx ad28),(32,.load (.agg (o7A (xs.getD i op0) (aL B31 (xs.getD i op0).attrs c32))))] [(33,.slice (some ⟨w25.heap.size,0,none⟩) 1 1)] [29,30] (w25.alloc (.cells (o7A (xs.getD i op0) (aL B31 (xs.getD i op0).attrs c32)) 102)) [A=some ad28,(0:Int)≤(i:Int),(i:Int)<(xs.length:Int),la 102 (ad28.add ((i:Int).toNat*7)) (.agg (o7A (xs.getD i op0) (aL B31 (xs.getD i op0).attrs c32))) w25] ⟨a29,(by omega),(by omega),loadsE rfl rfl c30 0 ⟨by kernel_rfl,by kernel_rfl⟩,trivial⟩ ?_
     obtain⟨w35,w39,b36,k37,z38⟩:=new_world w25 (o7A (xs.getD i op0) (aL B31 (xs.getD i op0).attrs c32)) 102
     rw[w39]
     have R40:=Kd.R_litB (kRaw 7) (W:=w25) (e:=102) (cs:=(o7A (xs.getD i op0) (aL B31 (xs.getD i op0).attrs c32))) [(o7L (xs.getD i op0) (aL B31 (xs.getD i op0).attrs c32))] k37 (rawL1 _ rfl (by kernel_rfl)) (Nat.le_of_ble_eq_true (by kernel_rfl))
     refine XL_appendMixH (d:=kOp) (W0:=W0) (B:=w.heap.size) (c':=1) (m:=1) op0 rfl rfl rfl 102 (.agg #[i6 0,s0,i6 0,i6 0,s0,i6 0,.slice none 0 0]) 88 Tryz.underlying22 info102 rfl (by decide) (by omega) gap [(xs.getD i op0)] [(o7L (xs.getD i op0) (aL B31 (xs.getD i op0).attrs c32))] (by kernel_rfl) (MixK.below hm4 (bt b26 b36)) (Kd.R_C R40) rfl (fun i_ hi_=>by have h_:i_=0:=(by omega); subst h_; exact(kOp_K_of (x:=(xs.getD i op0)) l33 C34)) ((bt (bt HB b26) b36)).size (by omega) ?_
     intro A41 c42 w43 m44 g45 l46 hat47
     have m48:=MixK.off (MixK.below hm3 (bt b26 b36)) g45 (Apt.symm hap)
     have ap49:=Apt.symm (Apt.grow (Apt.symm hap) hat47 (MixK.lt (MixK.below hm3 (bt b26 b36))))
     have hci:=B.cs_ins hcs (show i<xs.length by omega) hb hfx (of_decide_eq_true c27)
     refine xr0 1 [(4,aL A41 (gap++[(xs.getD i op0)]) c42)] [28,33,34] ?_
     refine nl (X_exit (rg (xr1 3 [(16,.eq (i6 ((i:Int)+1)))] [(6,i6 ((i:Int)+1))] [] (w6 ((i:Int)+1)) ?_)))
     refine nl ?_
     have B53:Below w.heap.size w w43:=(bgo (bt (bt HB b26) b36) g45 l46 (Nat.le_refl _))
     refine⟨(i+1,out,A3,c3,(gap++[(xs.getD i op0)]),A41,c42,g),by kernel_rfl,?_,?_⟩
     ·exact⟨by omega,(.inl hci),m48,m44,ap49,B53⟩
     (try dsimp only); omega
    rw[show (decide (insO (xs.getD i op0)):Bool)=false from by simpa using c27]
    refine cf (sk (sq (sg (xr1 7 [(38,.eq bT)] [(39,bT),(40,aL A xs c),(41,nv i)] [27] (dT c17) ?_))))
    obtain⟨ad54,B57,c58,a55,c56,l59,C60⟩:=OpK.op (OpK.below hx (bt HB b26)) (i:=(i:Int)) (by omega) (by omega)
    replace c56:CellsAt w25 (ad54.add ((i:Int).toNat*7)) (o7L (xs.getD i op0) (aL B57 (xs.getD i op0).attrs c58)):=c56
    replace l59:(xs.getD i op0).attrs.length≤c58:=l59
    replace C60:kAttr.C W0 B57 ((xs.getD i op0).attrs.length) (xs.getD i op0).attrs:=C60
    refine xr 3 [(42,.idx ad54),(44,.load (i6 ((xs.getD i op0).kind)))] [(44,i6 ((xs.getD i op0).kind))] [40,41] [A=some ad54,(0:Int)≤(i:Int),(i:Int)<(xs.length:Int),la 3 (ad54.add ((i:Int).toNat*7)) (i6 ((xs.getD i op0).kind)) w25] ⟨a55,(by omega),(by omega),loads1 rfl (elem_cell c56 0 _ rfl),trivial⟩ ?_
    by_cases c61:(xs.getD i op0).kind=4
    ·have hcd:=B.cs_del hcs (show i<xs.length by omega) hb c61
     have hbd2:=B.cs_bd hcd hb hsB ht hn
     refine xr1 2 [(45,.eq bT)] [(46,bT)] [39,44] (bE c61) ?_
     refine nl (ct (sg (xr0 3 [(47,i6 g),(48,aL A xs c),(49,nv i)] [5,46] ?_)))
     obtain⟨ad62,B65,c66,a63,c64,l67,C68⟩:=OpK.op (OpK.below hx (bt HB b26)) (i:=(i:Int)) (by omega) (by omega)
     replace c64:CellsAt w25 (ad62.add ((i:Int).toNat*7)) (o7L (xs.getD i op0) (aL B65 (xs.getD i op0).attrs c66)):=c64
     replace l67:(xs.getD i op0).attrs.length≤c66:=l67
     replace C68:kAttr.C W0 B65 ((xs.getD i op0).attrs.length) (xs.getD i op0).attrs:=C68
     refine xr 5 [(50,.idx ad62),(52,.load (i6 ((xs.getD i op0).count))),(53,.eq (i6 (g+((xs.getD i op0).count))))] [(5,i6 (g+((xs.getD i op0).count)))] [47,48,49] [A=some ad62,(0:Int)≤(i:Int),(i:Int)<(xs.length:Int),la 3 ((ad62.add ((i:Int).toNat*7)).add 5) (i6 ((xs.getD i op0).count)) w25,_] ⟨a63,(by omega),(by omega),loads1 rfl (elem_cell c64 5 _ rfl),w6 (g+((xs.getD i op0).count)),trivial⟩ ?_
     refine nl (X_exit (rg (xe1 3 [(16,.eq (i6 ((i:Int)+1)))] [(0,aL A xs c),(3,aL A3 out c3),(4,aL A4 gap c4),(5,i6 (g+((xs.getD i op0).count))),(6,i6 ((i:Int)+1))] (w6 ((i:Int)+1)) ?_)))
     refine nl ?_
     refine⟨(i+1,out,A3,c3,gap,A4,c4,g+((xs.getD i op0).count)),by kernel_rfl,?_,?_⟩
     ·exact⟨by omega,(.inl hcd),(MixK.below hm3 b26),(MixK.below hm4 b26),hap,(bt HB b26)⟩
     (try dsimp only); omega
    refine xr1 2 [(45,.eq bF)] [(46,bF)] [39,44] (bN c61) ?_
    refine nl (cf (X_skip ?_))
    exact J16 () _ _ (by kernel_rfl) ⟨(fun _=>⟨(of_decide_eq_false (Bool.eq_false_iff.2 c27)),c61⟩),(MixK.below hm3 b26),(MixK.below hm4 b26),(bt HB b26)⟩
   refine xr1 8 [(20,.eq bF)] [(27,bF)] [17,19] (dF c17) ?_
   refine nl (cf (sk (sq (sg (xr1 12 [(38,.eq bF)] [(46,bF)] [27] (dF c17) ?_)))))
   refine nl (cf (X_skip ?_))
   exact J16 () _ _ (by kernel_rfl) ⟨(fun h_=>absurd h_ c17),hm3,hm4,HB⟩
  rintro _ wj ⟨hnk,hmj3,hmj4,HBj⟩
  refine sq (sg (xr0 3 [(54,aL A4 gap c4),(55,i6 (gap.length:Int)),(56,i6 0)] [4] ?_))
  refine nl (bk (X_loop (ι:=Nat×List OpA×Option Addr×Nat) (fun⟨j,P,A5,c5⟩=>[(0,aL A xs c),(3,aL A5 P c5),(5,i6 g),(6,i6 (i:Int)),(54,aL A4 gap c4),(55,i6 (gap.length:Int)),(56,i6 (j:Int))]) (fun⟨j,P,A5,c5⟩ wm=>j≤gap.length∧B.FS out gap P j∧MixK kOp op0 102 w.heap.size W0 wm A5 P.length c5 P∧MixK kOp op0 102 w.heap.size W0 wm A4 gap.length c4 gap∧Apt A5 A4∧Below w.heap.size w wm) (fun⟨j,P,A5,c5⟩=>gap.length-j) (0,out,A3,c3) ⟨Nat.zero_le _,B.fs_nil hcs,hmj3,hmj4,hap,HBj⟩ (by kernel_rfl) ?_))
  rintro⟨j,P,A5,c5⟩ wm ⟨hj,hfs,hm5,hm6,hap5,HB2⟩
  have hPl:=hfs.ln
  refine sq (X_region ?_)
  by_cases c73:(j:Int)<(gap.length:Int)
  ·refine xr1 1 [(57,.eq bT)] [(57,bT)] [] (dT c73) ?_
   refine nl (sq (ct (sk (sq (bk (sq (X_region ?_)))))))
   obtain⟨ad74,B77,c78,a75,c76,l79,C80⟩:=MixK.op hm6 (i:=(j:Int)) (by omega) (by omega)
   replace c76:CellsAt wm (ad74.add ((j:Int).toNat*7)) (o7L (gap.getD j op0) (aL B77 (gap.getD j op0).attrs c78)):=c76
   replace l79:(gap.getD j op0).attrs.length≤c78:=l79
   replace C80:kAttr.C W0 B77 ((gap.getD j op0).attrs.length) (gap.getD j op0).attrs:=C80
   refine xw 3 [(58,.idx ad74),(59,.load (.agg (o7A (gap.getD j op0) (aL B77 (gap.getD j op0).attrs c78))))] [(8,pw wm.heap.size 0),(59,.agg (o7A (gap.getD j op0) (aL B77 (gap.getD j op0).attrs c78)))] [57] (wm.alloc (.cells #[i6 0,s0,i6 0,i6 0,s0,i6 0,.slice none 0 0] 102)) [A4=some ad74,(0:Int)≤(j:Int),(j:Int)<(gap.length:Int),la 102 (ad74.add ((j:Int).toNat*7)) (.agg (o7A (gap.getD j op0) (aL B77 (gap.getD j op0).attrs c78))) wm] ⟨a75,(by omega),(by omega),loadsE rfl rfl c76 0 ⟨by kernel_rfl,by kernel_rfl⟩,trivial⟩ ?_
   obtain⟨w81,w85,b82,k83,z84⟩:=new_world wm #[i6 0,s0,i6 0,i6 0,s0,i6 0,.slice none 0 0] 102
   rw[w85]
   refine xst (.agg (o7A (gap.getD j op0) (aL B77 (gap.getD j op0).attrs c78))) k83 0 (o7A (gap.getD j op0) (aL B77 (gap.getD j op0).attrs c78)) (fun w86 g87 k88 z89=>?_)
   refine nl (rg (xr 2 [(61,.load (.agg (o7A (gap.getD j op0) (aL B77 (gap.getD j op0).attrs c78))))] [(60,aL A5 P c5),(61,.agg (o7A (gap.getD j op0) (aL B77 (gap.getD j op0).attrs c78)))] [3,8,59] [la 102 (⟨wm.heap.size,0,none⟩) (.agg (o7A (gap.getD j op0) (aL B77 (gap.getD j op0).attrs c78))) w86] ⟨loadsB rfl rfl k88 0 ⟨by kernel_rfl,by kernel_rfl⟩,trivial⟩ ?_))
   have hpre:=B.fs_pre hcs hfs (by omega) hbd.2.2.1
   have hfs1:=B.fs_step hcs hfs (by omega)
   have hpp96:=B.push_pre (out:=P) (o:=(gap.getD j op0)) hpre.1 hpre.2.1 hpre.2.2
   have B97:Below W0.heap.size W0 w86:=(bg (bt (bt hW HB2) b82) g87 ((bt hW HB2)).size)
   refine xc 198 ent198 [.slice A5 P.length c5,.agg (o7A (gap.getD j op0) (aL B77 (gap.getD j op0).attrs c78))] (r6push_any _ _ P (gap.getD j op0) _ _ w.heap.size W0 _ B97 (MixK.below hm5 (bg b82 g87 (Nat.le_refl _))) C80 l79 ((bg (bt HB2 b82) g87 (HB2).size)).size (by omega) hpp96.1 hpp96.2) ?_
   rintro e w92 ⟨A90,c91,rfl,m93,g94,hat95⟩; refine⟨_,rfl,?_⟩
   have m98:=MixK.off (MixK.below hm6 (bg b82 g87 (Nat.le_refl _))) g94 hap5
   have ap99:=Apt.grow hap5 hat95 (MixK.lt (MixK.below hm6 (bg b82 g87 (Nat.le_refl _))))
   obtain⟨z100,z101⟩:∃ z_,(B.push P (gap.getD j op0))=z_:=⟨_,rfl⟩; rw[z101]at m93 ⊢
   rw[z101]at hfs1
   refine xr0 1 [(3,aL A90 z100 c91)] [60,61,62] ?_
   refine nl (rg (xr1 2 [(63,.eq (i6 ((j:Int)+1)))] [(56,i6 ((j:Int)+1))] [] (w6 ((j:Int)+1)) ?_))
   refine nl ?_
   have B105:Below w.heap.size w w92:=(bgo (bg (bt HB2 b82) g87 (HB2).size) g94 (MixK.ge (MixK.below hm5 (bg b82 g87 (Nat.le_refl _)))) (Nat.le_refl _))
   refine⟨(j+1,z100,A90,c91),by kernel_rfl,?_,?_⟩
   ·exact⟨by omega,hfs1,m93,m98,ap99,B105⟩
   (try dsimp only); omega
  have hfe:=B.fs_end hcs (show B.FS out gap P gap.length from by rw[←show j=gap.length by omega]; exact hfs)
  have hfl:=B.cs_flush hcs hb hsB
  refine xr1 1 [(57,.eq bF)] [(57,bF)] [] (dF c73) ?_
  refine nl (sq (cf (X_exit (sq (sg (xr0 1 [(64,i6 g)] [54,55,56,57] ?_))))))
  by_cases c106:g>0
  ·refine xr1 1 [(65,.eq bT)] [(65,bT)] [64] (dT c106) ?_
   refine nl (ct (rg (xr0 3 [(66,aL A5 P c5),(68,.agg #[i6 4,s0,i6 0,i6 0,s0,i6 g,.slice none 0 0])] [3,5,65] ?_)))
   have hpre:badE P=0∧pErr (B.gone g)=0∧B.txS P+(B.gone g).text.size≤50000000:=⟨hfe.2.1,hfl.2.2 (by omega),(by show _+0≤_; omega)⟩
   have hpp113:=B.push_pre (out:=P) (o:=(B.gone g)) hpre.1 hpre.2.1 hpre.2.2
   refine xc 198 ent198 [.slice A5 P.length c5,.agg #[i6 4,s0,i6 0,i6 0,s0,i6 g,.slice none 0 0]] (r6push_any _ _ P (B.gone g) _ _ w.heap.size W0 _ (bt hW HB2) hm5 ⟨rfl,Nat.zero_le _,fun h=>absurd h (Nat.lt_irrefl 0)⟩ (Nat.zero_le _) (HB2).size (by omega) hpp113.1 hpp113.2) ?_
   rintro e w109 ⟨A107,c108,rfl,m110,g111,hat112⟩; refine⟨_,rfl,?_⟩
   have m114:=MixK.off hm6 g111 hap5
   have ap115:=Apt.grow hap5 hat112 (MixK.lt hm6)
   obtain⟨z116,z117⟩:∃ z_,(B.push P (B.gone g))=z_:=⟨_,rfl⟩; rw[z117]at m110 ⊢
   have B119:Below W0.heap.size W0 w109:=(bgo (bt hW HB2) g111 (MixK.ge hm5) (hW).size)
   have hdl:z116=B.dels (gap.foldl B.push out) g:=by rw[←z117,hfe.1,←hfl.1,if_pos (by omega)]
   have hln1:z116.length≤3145730:=by have h1_:=B.push_len P (B.gone g); have h2_:=congrArg List.length z117; have h3_:=hfe.2.2.2.1; omega
   refine xr0 1 [(3,aL A107 z116 c108)] [66,68,69] ?_
   refine nl (sg (xe0 2 [(0,aL A xs c),(3,aL A107 z116 c108),(4,.slice none 0 0),(5,i6 0),(6,nv i)] ?_))
   refine nl (sg (xr0 3 [(70,nv i),(72,i6 (xs.length:Int))] [] ?_))
   by_cases c121:(i:Int)<(xs.length:Int)
   ·refine xr1 1 [(73,.eq bT)] [(73,bT)] [70,72] (dT c121) ?_
    refine nl (ct (rg (xr0 3 [(74,aL A107 z116 c108),(75,aL A xs c),(76,nv i)] [3,73] ?_)))
    have B122:Below w.heap.size w w109:=(bgo HB2 g111 (MixK.ge hm5) (Nat.le_refl _))
    obtain⟨ad123,B126,c127,a124,c125,l128,C129⟩:=OpK.op (OpK.below hx B122) (i:=(i:Int)) (by omega) (by omega)
    replace c125:CellsAt w109 (ad123.add ((i:Int).toNat*7)) (o7L (xs.getD i op0) (aL B126 (xs.getD i op0).attrs c127)):=c125
    replace l128:(xs.getD i op0).attrs.length≤c127:=l128
    replace C129:kAttr.C W0 B126 ((xs.getD i op0).attrs.length) (xs.getD i op0).attrs:=C129
    refine xr 2 [(77,.idx ad123),(78,.load (.agg (o7A (xs.getD i op0) (aL B126 (xs.getD i op0).attrs c127))))] [(78,.agg (o7A (xs.getD i op0) (aL B126 (xs.getD i op0).attrs c127)))] [75,76] [A=some ad123,(0:Int)≤(i:Int),(i:Int)<(xs.length:Int),la 102 (ad123.add ((i:Int).toNat*7)) (.agg (o7A (xs.getD i op0) (aL B126 (xs.getD i op0).attrs c127))) w109] ⟨a124,(by omega),(by omega),loadsE rfl rfl c125 0 ⟨by kernel_rfl,by kernel_rfl⟩,trivial⟩ ?_
    have hpi:=badE_getD hb (show i<xs.length by omega)
    have hki:=kind_of_ok hpi
    have hin:¬((xs.getD i op0).kind=1∨(xs.getD i op0).kind=2):=(hnk (by omega)).1
    have hnk4:=(hnk (by omega)).2
    have hk3:(xs.getD i op0).kind=3:=by omega
    have htx:B.txS z116+(xs.getD i op0).text.size≤50000000:=by have h1_:=(B.dels_sz (g:=g) hfe.2.2.2.2).2; have h2_:=hcs.tx; have h3_:=B.tx_take (show i<xs.length by omega); have h4_:=B.txS_take xs (i+1); have h5_:=congrArg B.txS hdl; have h6_:=congrArg B.txS hfe.1; have h7_:=hfe.2.2.1; rw[hfe.1]at h1_; omega
    have hpre2:badE z116=0∧pErr (xs.getD i op0)=0∧B.txS z116+(xs.getD i op0).text.size≤50000000:=⟨by rw[hdl]; exact hfl.2.1,hpi,htx⟩
    have hpp136:=B.push_pre (out:=z116) (o:=(xs.getD i op0)) hpre2.1 hpre2.2.1 hpre2.2.2
    refine xc 198 ent198 [.slice A107 z116.length c108,.agg (o7A (xs.getD i op0) (aL B126 (xs.getD i op0).attrs c127))] (r6push_any _ _ z116 (xs.getD i op0) _ _ w.heap.size W0 _ B119 m110 C129 l128 (B122).size (by omega) hpp136.1 hpp136.2) ?_
    rintro e w132 ⟨A130,c131,rfl,m133,g134,hat135⟩; refine⟨_,rfl,?_⟩
    have ap138:=Apt.grow ap115 hat135 (MixK.lt m114)
    obtain⟨z139,z140⟩:∃ z_,(B.push z116 (xs.getD i op0))=z_:=⟨_,rfl⟩; rw[z140]at m133 ⊢
    have hln2:z139.length≤3*(i+1):=by have h1_:=B.push_len z116 (xs.getD i op0); have h2_:=B.dels_len' (gap.foldl B.push out) g; have h3_:=hcs.ln; have h4_:=congrArg List.length hdl; have h5_:=congrArg List.length hfe.1; have h6_:=congrArg List.length z140; omega
    have hcr:B.CS xs z139 [] 0 (i+1):=by have h_:=B.cs_ret hcs (show i<xs.length by omega) hb hsB hfx hk3 (by rw[←hdl,z140]; exact hln2); rw[←hdl,z140]at h_; exact h_
    refine xr0 1 [(3,aL A130 z139 c131)] [74,78,79] ?_
    refine nl (rg (xe1 3 [(16,.eq (i6 ((i:Int)+1)))] [(0,aL A xs c),(3,aL A130 z139 c131),(4,.slice none 0 0),(5,i6 0),(6,i6 ((i:Int)+1))] (w6 ((i:Int)+1)) ?_))
    refine nl ?_
    have B144:Below w.heap.size w w132:=(bgo B122 g134 (MixK.ge m110) (Nat.le_refl _))
    refine⟨(i+1,z139,A130,c131,[],none,0,0),by kernel_rfl,?_,?_⟩
    ·exact⟨by omega,(.inl hcr),m133,(MixK.nil (z:=op0) (B:=w.heap.size) (W0:=W0) (Kd.R_nil kOp 102 _ w.heap.size (OkFrom w.heap.size)) (Nat.le_refl _)),(Apt.symm (Apt.none _)),B144⟩
    (try dsimp only); omega
   refine xr1 1 [(73,.eq bF)] [(73,bF)] [70,72] (dF c121) ?_
   refine nl (cf (sk (rg (xr1 3 [(16,.eq (i6 ((i:Int)+1)))] [(6,i6 ((i:Int)+1))] [73] (w6 ((i:Int)+1)) ?_))))
   refine nl ?_
   have B145:Below w.heap.size w w109:=(bgo HB2 g111 (MixK.ge hm5) (Nat.le_refl _))
   refine⟨(i+1,z116,A107,c108,[],none,0,0),by kernel_rfl,?_,?_⟩
   ·have hci2:i=xs.length:=by omega
    have hce2:B.CLoop xs z116 [] 0 (i+1):=.inr ⟨by omega,by rw[hdl]; exact B.cs_end hcs hci2,by rw[hdl]; exact hfl.2.1,by have h2_:=B.dels_len' (gap.foldl B.push out) g; have h4_:=congrArg List.length hdl; have h5_:=congrArg List.length hfe.1; omega⟩
    exact⟨by omega,hce2,m110,(MixK.nil (z:=op0) (B:=w.heap.size) (W0:=W0) (Kd.R_nil kOp 102 _ w.heap.size (OkFrom w.heap.size)) (Nat.le_refl _)),(Apt.symm (Apt.none _)),B145⟩
   (try dsimp only); omega
  have hdl:P=B.dels (gap.foldl B.push out) g:=by rw[hfe.1,←hfl.1,if_neg (by omega)]
  refine xr1 1 [(65,.eq bF)] [(65,bF)] [64] (dF c106) ?_
  refine nl (cf (sk (sg (xr0 2 [(4,.slice none 0 0),(5,i6 0)] [65] ?_))))
  refine nl (sg (xr0 3 [(70,nv i),(72,i6 (xs.length:Int))] [] ?_))
  by_cases c146:(i:Int)<(xs.length:Int)
  ·refine xe1 1 [(73,.eq bT)] [(0,aL A xs c),(3,aL A5 P c5),(4,.slice none 0 0),(5,i6 0),(6,nv i),(73,bT)] (dT c146) ?_
   refine nl (ct (rg (xr0 3 [(74,aL A5 P c5),(75,aL A xs c),(76,nv i)] [3,73] ?_)))
   obtain⟨ad147,B150,c151,a148,c149,l152,C153⟩:=OpK.op (OpK.below hx HB2) (i:=(i:Int)) (by omega) (by omega)
   replace c149:CellsAt wm (ad147.add ((i:Int).toNat*7)) (o7L (xs.getD i op0) (aL B150 (xs.getD i op0).attrs c151)):=c149
   replace l152:(xs.getD i op0).attrs.length≤c151:=l152
   replace C153:kAttr.C W0 B150 ((xs.getD i op0).attrs.length) (xs.getD i op0).attrs:=C153
   refine xr 2 [(77,.idx ad147),(78,.load (.agg (o7A (xs.getD i op0) (aL B150 (xs.getD i op0).attrs c151))))] [(78,.agg (o7A (xs.getD i op0) (aL B150 (xs.getD i op0).attrs c151)))] [75,76] [A=some ad147,(0:Int)≤(i:Int),(i:Int)<(xs.length:Int),la 102 (ad147.add ((i:Int).toNat*7)) (.agg (o7A (xs.getD i op0) (aL B150 (xs.getD i op0).attrs c151))) wm] ⟨a148,(by omega),(by omega),loadsE rfl rfl c149 0 ⟨by kernel_rfl,by kernel_rfl⟩,trivial⟩ ?_
   have hpi:=badE_getD hb (show i<xs.length by omega)
   have hki:=kind_of_ok hpi
   have hin:¬((xs.getD i op0).kind=1∨(xs.getD i op0).kind=2):=(hnk (by omega)).1
   have hnk4:=(hnk (by omega)).2
   have hk3:(xs.getD i op0).kind=3:=by omega
   have htx:B.txS P+(xs.getD i op0).text.size≤50000000:=by have h1_:=(B.dels_sz (g:=g) hfe.2.2.2.2).2; have h2_:=hcs.tx; have h3_:=B.tx_take (show i<xs.length by omega); have h4_:=B.txS_take xs (i+1); have h5_:=congrArg B.txS hdl; have h6_:=congrArg B.txS hfe.1; have h7_:=hfe.2.2.1; rw[hfe.1]at h1_; omega
   have hpre2:badE P=0∧pErr (xs.getD i op0)=0∧B.txS P+(xs.getD i op0).text.size≤50000000:=⟨by rw[hdl]; exact hfl.2.1,hpi,htx⟩
   have hpp160:=B.push_pre (out:=P) (o:=(xs.getD i op0)) hpre2.1 hpre2.2.1 hpre2.2.2
   refine xc 198 ent198 [.slice A5 P.length c5,.agg (o7A (xs.getD i op0) (aL B150 (xs.getD i op0).attrs c151))] (r6push_any _ _ P (xs.getD i op0) _ _ w.heap.size W0 _ (bt hW HB2) hm5 C153 l152 (HB2).size (by omega) hpp160.1 hpp160.2) ?_
   rintro e w156 ⟨A154,c155,rfl,m157,g158,hat159⟩; refine⟨_,rfl,?_⟩
   have ap162:=Apt.grow hap5 hat159 (MixK.lt hm6)
   obtain⟨z163,z164⟩:∃ z_,(B.push P (xs.getD i op0))=z_:=⟨_,rfl⟩; rw[z164]at m157 ⊢
   have hln2:z163.length≤3*(i+1):=by have h1_:=B.push_len P (xs.getD i op0); have h2_:=B.dels_len' (gap.foldl B.push out) g; have h3_:=hcs.ln; have h4_:=congrArg List.length hdl; have h5_:=congrArg List.length hfe.1; have h6_:=congrArg List.length z164; omega
   have hcr:B.CS xs z163 [] 0 (i+1):=by have h_:=B.cs_ret hcs (show i<xs.length by omega) hb hsB hfx hk3 (by rw[←hdl,z164]; exact hln2); rw[←hdl,z164]at h_; exact h_
   refine xr0 1 [(3,aL A154 z163 c155)] [74,78,79] ?_
   refine nl (rg (xr1 3 [(16,.eq (i6 ((i:Int)+1)))] [(6,i6 ((i:Int)+1))] [] (w6 ((i:Int)+1)) ?_))
   refine nl ?_
   have B168:Below w.heap.size w w156:=(bgo HB2 g158 (MixK.ge hm5) (Nat.le_refl _))
   refine⟨(i+1,z163,A154,c155,[],none,0,0),by kernel_rfl,?_,?_⟩
   ·exact⟨by omega,(.inl hcr),m157,(MixK.nil (z:=op0) (B:=w.heap.size) (W0:=W0) (Kd.R_nil kOp 102 _ w.heap.size (OkFrom w.heap.size)) (Nat.le_refl _)),(Apt.symm (Apt.none _)),B168⟩
   (try dsimp only); omega
  refine xe1 1 [(73,.eq bF)] [(0,aL A xs c),(3,aL A5 P c5),(4,.slice none 0 0),(5,i6 0),(6,nv i),(73,bF)] (dF c146) ?_
  refine nl (cf (sk (rg (xr1 3 [(16,.eq (i6 ((i:Int)+1)))] [(6,i6 ((i:Int)+1))] [73] (w6 ((i:Int)+1)) ?_))))
  refine nl ?_
  refine⟨(i+1,P,A5,c5,[],none,0,0),by kernel_rfl,?_,?_⟩
  ·have hci2:i=xs.length:=by omega
   have hce2:B.CLoop xs P [] 0 (i+1):=.inr ⟨by omega,by rw[hdl]; exact B.cs_end hcs hci2,by rw[hdl]; exact hfl.2.1,by have h2_:=B.dels_len' (gap.foldl B.push out) g; have h4_:=congrArg List.length hdl; have h5_:=congrArg List.length hfe.1; omega⟩
   exact⟨by omega,hce2,hm5,(MixK.nil (z:=op0) (B:=w.heap.size) (W0:=W0) (Kd.R_nil kOp 102 _ w.heap.size (OkFrom w.heap.size)) (Nat.le_refl _)),(Apt.symm (Apt.none _)),HB2⟩
  (try dsimp only); omega
 have hce:=hcl.resolve_left (fun h_=>by have h2_:=h_.i1; omega)
 refine xr1 1 [(14,.eq bF)] [(14,bF)] [11,13] (dF c15) ?_
 refine nl (cf (X_exit (sq (sg (xr0 2 [(81,i6 (out.length:Int))] [0,4,5,6,14] ?_)))))
 by_cases c169:(out.length:Int)>0
 ·refine xr 6 [(82,.eq bT),(87,.eq (i6 ((out.length:Int)-1)))] [(83,bT),(84,aL A3 out c3),(87,i6 ((out.length:Int)-1))] [81] [_,_] ⟨dT c169,w6 ((out.length:Int)-1),trivial⟩ ?_
  obtain⟨ad170,B173,c174,a171,c172,l175,C176⟩:=MixK.op hm3 (i:=(out.length:Int)-1) (by omega) (by omega)
  replace c172:CellsAt wl (ad170.add (((out.length:Int)-1).toNat*7)) (o7L (out.getD ((out.length:Int)-1).toNat op0) (aL B173 (out.getD ((out.length:Int)-1).toNat op0).attrs c174)):=c172
  replace l175:(out.getD ((out.length:Int)-1).toNat op0).attrs.length≤c174:=l175
  replace C176:kAttr.C W0 B173 ((out.getD ((out.length:Int)-1).toNat op0).attrs.length) (out.getD ((out.length:Int)-1).toNat op0).attrs:=C176
  refine xr 2 [(88,.idx ad170),(89,.load (.agg (o7A (out.getD ((out.length:Int)-1).toNat op0) (aL B173 (out.getD ((out.length:Int)-1).toNat op0).attrs c174))))] [(89,.agg (o7A (out.getD ((out.length:Int)-1).toNat op0) (aL B173 (out.getD ((out.length:Int)-1).toNat op0).attrs c174)))] [84,87] [A3=some ad170,(0:Int)≤(out.length:Int)-1,(out.length:Int)-1<(out.length:Int),la 102 (ad170.add (((out.length:Int)-1).toNat*7)) (.agg (o7A (out.getD ((out.length:Int)-1).toNat op0) (aL B173 (out.getD ((out.length:Int)-1).toNat op0).attrs c174))) wl] ⟨a171,(by omega),(by omega),loadsE rfl rfl c172 0 ⟨by kernel_rfl,by kernel_rfl⟩,trivial⟩ ?_
  refine xc 199 ent199 [.agg (o7A (out.getD ((out.length:Int)-1).toNat op0) (aL B173 (out.getD ((out.length:Int)-1).toNat op0).attrs c174))] (r6plain_any (out.getD ((out.length:Int)-1).toNat op0) _ _ _ (Kd.C_below C176 (bt hW HB))) ?_
  rintro e w177 ⟨rfl,b178⟩; refine⟨_,rfl,?_⟩
  refine xe0 1 [(3,aL A3 out c3),(91,.bool (decide (plainR (out.getD ((out.length:Int)-1).toNat op0))))] ?_
  refine nl ?_
  by_cases c179:decide (plainR (out.getD ((out.length:Int)-1).toNat op0))=true
  ·rw[show (decide (plainR (out.getD ((out.length:Int)-1).toNat op0)):Bool)=true from by simpa using c179]
   refine ct (rg (xe1 4 [(95,.eq (i6 ((out.length:Int)-1)))] [(92,aL A3 out c3),(95,i6 ((out.length:Int)-1))] (w6 ((out.length:Int)-1)) ?_))
   refine xe 2 [(96,.as (.slice A3 (((out.length:Int)-1).toNat) c3))] [(3,.slice A3 (((out.length:Int)-1).toNat) c3)] [RunsAs Tryz.prog [(92,aL A3 out c3),(95,i6 ((out.length:Int)-1))] (Go.Op.slice 22 (Go.Operand.tmp 92) none (some (Go.Operand.tmp 95)) none) 22 (.slice A3 (((out.length:Int)-1).toNat) c3) w177] ⟨runs_slice_h (h:=(out.length:Int)-1) rfl rfl rfl rfl (by omega) (by have h_:=(MixK.len hm3).2; omega),trivial⟩ ?_
   refine nl (sg (xe0 2 [(2,.slice A3 (((out.length:Int)-1).toNat) c3)] ?_))
   refine nl (X_ret (rj [.slice A3 (((out.length:Int)-1).toNat) c3] hR_ ?_))
   have hpr:plainR (out.getD ((out.length:Int)-1).toNat op0):=of_decide_eq_true (by assumption)
   rw[show ((out.length:Int)-1).toNat=out.length-1 by omega]at hpr ⊢
   have hfi:B.fin out=out.take (out.length-1):=if_pos ⟨by omega,hpr⟩
   have hM:=MixK.cut (MixK.below hm3 b178) (show out.length-1≤out.length by omega)
   have hlt:(out.take (out.length-1)).length=out.length-1:=by rw[List.length_take]; omega
   rw[←hfi,hce.2.1]at hM hlt
   rw[←hlt]at hM ⊢
   exact⟨A3,c3,rfl,hM,(bt HB b178)⟩
  rw[show (decide (plainR (out.getD ((out.length:Int)-1).toNat op0)):Bool)=false from by simpa using c179]
  refine cf (sk (sg (xe0 2 [(2,aL A3 out c3)] ?_)))
  refine nl (X_ret (rj [aL A3 out c3] hR_ ?_))
  have hfi:B.fin out=out:=fin_not (by first|exact .inl (by omega)|(refine .inr fun h_=>?_; have h2_:¬plainR (out.getD ((out.length:Int)-1).toNat op0):=of_decide_eq_false (Bool.eq_false_iff.2 (by assumption)); rw[show ((out.length:Int)-1).toNat=out.length-1 by omega]at h2_; exact h2_ h_))
  have hca:=hce.2.1
  rw[hfi]at hca
  rw[←hca]
  exact⟨A3,c3,rfl,(MixK.below hm3 b178),(bt HB b178)⟩
 refine xr1 10 [(82,.eq bF)] [(91,bF)] [81] (dF c169) ?_
 refine nl (cf (sk (sg (xe0 2 [(2,aL A3 out c3)] ?_))))
 refine nl (X_ret (rj [aL A3 out c3] hR_ ?_))
 have hfi:B.fin out=out:=fin_not (by first|exact .inl (by omega)|(refine .inr fun h_=>?_; have h2_:¬plainR (out.getD ((out.length:Int)-1).toNat op0):=of_decide_eq_false (Bool.eq_false_iff.2 (by assumption)); rw[show ((out.length:Int)-1).toNat=out.length-1 by omega]at h2_; exact h2_ h_))
 have hca:=hce.2.1
 rw[hfi]at hca
 rw[←hca]
 exact⟨A3,c3,rfl,hm3,HB⟩
end Go.Proofs.YtgphmfnkeolbcaaGreatDoor
