import Derived.Test.YtgphmfnkeolbcaaGreatDoorMixP
import Derived.Test.YtgphmfnkeolbcaaGreatDoorCls
import Derived.Test.YtgphmfnkeolbcaaGreatDoorT30
import Derived.Test.YtgphmfnkeolbcaaGreatDoorT16
/- Rows of cells whose attributes lie elsewhere or are new. No condition. -/
set_option linter.unusedVariables false
set_option maxRecDepth 100000
namespace Go.Proofs.YtgphmfnkeolbcaaGreatDoor.RX
open Go Go.RowKit Go.Proofs.YtgphmfnkeolbcaaGreatDoor Go.Proofs.YtgphmfnkeolbcaaGreatDoorW.PrintWords
section
variable {α : Type} {d : Kd α} {z : α} {e B : Nat} {W0 W w w1 : World} {A A' : Option Addr} {n c m c' : Nat} {xs ys : List α}
end
theorem C_cellK {W0 w:World}{A:Option Addr}{n:Nat}{xs:List CellA}(h:kCell.C W0 A n xs)(hB:Below W0.heap.size W0 w){i:Int}(h0:0≤i)(h1:i<n):∃ ad B c,A=some ad∧CellsAt w (ad.add (i.toNat*6)) (cellV (xs.getD i.toNat cell0) B c)∧(xs.getD i.toNat cell0).attrs.length≤c∧kAttr.C W0 B (xs.getD i.toNat cell0).attrs.length (xs.getD i.toNat cell0).attrs:=by
  obtain⟨ad,cs,e1,hc,hK⟩:=C_atK (z:=cell0) h hB h0 h1
  obtain⟨B,c,rfl,hl,hC⟩:=kCell_K hK
  exact⟨ad,B,c,e1,hc,hl,hC⟩
end Go.Proofs.YtgphmfnkeolbcaaGreatDoor.RX
set_option linter.unusedVariables false
set_option linter.unusedSimpArgs false
set_option maxRecDepth 100000
namespace Go.Proofs.YtgphmfnkeolbcaaGreatDoor
open Go Go.RowKit Go.Proofs.YtgphmfnkeolbcaaGreatDoorW.PrintWords RX
theorem ent157 :Ent Tryz.prog 157:=ent_of Tryz.func157 (by kernel_rfl) rfl
theorem ent95 :Ent Tryz.prog 95:=ent_of Tryz.func95 (by kernel_rfl) rfl
theorem ent23 :Ent Tryz.prog 23:=ent_of Tryz.func23 (by kernel_rfl) rfl
theorem rb_one (r:Int):Utf8.encode r=runesBytes [r]:=(B.empty_app _).symm
theorem r9op_any (c:CellA)(A:Option Addr)(k:Nat)(w:World):Rt 157 #[.agg (c6A c (.slice A c.attrs.length k))] w (.agg (o7A (B.opC c) (.slice A c.attrs.length k))):=by
 refine en Tryz.func157 rfl 19 [(0,.agg (c6A c (aL A c.attrs k)))] (fun R_ hR_=>?_)
 refine sg (xwe 1 [] [(1,pw w.heap.size 0)] (w.alloc (.cells (c6A c (aL A c.attrs k)) 51)) [] trivial ?_)
 obtain⟨w1,w5,b2,k3,z4⟩:=new_world w (c6A c (aL A c.attrs k)) 51
 rw[w5]
 refine xw 1 [] [(2,pw w1.heap.size 0)] [] (w1.alloc (.cells #[i6 0,s0,i6 0,i6 0,s0,i6 0,.slice none 0 0] 102)) [] trivial ?_
 obtain⟨w_6,w10,b7,k8,z9⟩:=new_world w1 #[i6 0,s0,i6 0,i6 0,s0,i6 0,.slice none 0 0] 102
 rw[w10]
 refine nl (sq (sg (xr1 2 [(4,.load (.int .i32 c.rune))] [(4,.int .i32 c.rune)] [] (lc 21 (Blk.below k3 b7) 0) ?_)))
 by_cases c11:c.rune=(-1)
 ·refine xr1 1 [(5,.eq bT)] [(5,bT)] [4] (bE c11) ?_
  refine nl (ct (sg (xr 7 [(7,.load (sT c.kind)),(9,.load (.agg #[i6 c.vk,i6 c.vn,sT c.vt])),(11,.load (aL A c.attrs k))] [(12,.agg #[i6 2,sT c.kind,i6 c.vk,i6 c.vn,sT c.vt,i6 0,aL A c.attrs k])] [1,5] [_,la 48 (⟨w.heap.size,2,none⟩) (.agg #[i6 c.vk,i6 c.vn,sT c.vt]) w_6,_] ⟨lc 9 (Blk.below k3 b7) 1,loadsB rfl rfl (Blk.below k3 b7) 2 ⟨by kernel_rfl,by kernel_rfl⟩,lc 49 (Blk.below k3 b7) 5,trivial⟩ ?_)))
  refine xst (.agg #[i6 2,sT c.kind,i6 c.vk,i6 c.vn,sT c.vt,i6 0,aL A c.attrs k]) k8 0 #[i6 2,sT c.kind,i6 c.vk,i6 c.vn,sT c.vt,i6 0,aL A c.attrs k] (fun w12 g13 k14 z15=>?_)
  refine nl (X_ret (RX.ret_cell (P:=Tryz.prog) (fn:=Tryz.f157) (N:=19) (R:=R_) (c:=2) (t:=102) (p:=⟨w1.heap.size,0,none⟩) (v:=.agg #[i6 2,sT c.kind,i6 c.vk,i6 c.vn,sT c.vt,i6 0,aL A c.attrs k]) rfl rfl (lB k14 0) (hR_ _ _ ?_)))
  rw[B.op_emb c11]
  exact⟨rfl,(bg (bt b2 b7) g13 (b2).size)⟩
 refine xr1 1 [(5,.eq bF)] [(5,bF)] [4] (bN c11) ?_
 refine nl (cf (sk (sg (xr 6 [(14,.load (.int .i32 c.rune)),(15,.as (sT (Utf8.encode c.rune))),(17,.load (aL A c.attrs k))] [(18,.agg #[i6 1,sT (Utf8.encode c.rune),i6 0,i6 0,s0,i6 0,aL A c.attrs k])] [1,5] [_,RunsAs Tryz.prog [(14,.int .i32 c.rune)] (Go.Op.convert 21 9 (Go.Operand.tmp 14)) 9 (sT (Utf8.encode c.rune)) w_6,_] ⟨lc 21 (Blk.below k3 b7) 0,runs_conv rfl (run_convert_int_string _ _ _ _ _ (by kernel_rfl) Tryz.underlying9),lc 49 (Blk.below k3 b7) 5,trivial⟩ ?_))))
 refine xst (.agg #[i6 1,sT (Utf8.encode c.rune),i6 0,i6 0,s0,i6 0,aL A c.attrs k]) k8 0 #[i6 1,sT (Utf8.encode c.rune),i6 0,i6 0,s0,i6 0,aL A c.attrs k] (fun w16 g17 k18 z19=>?_)
 refine nl (X_ret (RX.ret_cell (P:=Tryz.prog) (fn:=Tryz.f157) (N:=19) (R:=R_) (c:=2) (t:=102) (p:=⟨w1.heap.size,0,none⟩) (v:=.agg #[i6 1,sT (Utf8.encode c.rune),i6 0,i6 0,s0,i6 0,aL A c.attrs k]) rfl rfl (lB k18 0) (hR_ _ _ ?_)))
 rw[B.op_txt c11]
 rw[rb_one]
 exact⟨rfl,(bg (bt b2 b7) g17 (b2).size)⟩
theorem opC_attrs (c:CellA):(B.opC c).attrs=c.attrs:=by unfold B.opC; split<;>rfl
theorem map_snocC (cs:List CellA)(i:Nat)(h:i<cs.length):(cs.take i).map B.opC++[B.opC (cs.getD i cell0)]=(cs.take (i+1)).map B.opC:=by rw[take_snocD cell0 cs i h,List.map_append]; rfl
theorem opK_cell {w:World}{c:CellA}{D:Option Addr}{d:Nat}(hl:c.attrs.length≤d)(hC:kAttr.C w D c.attrs.length c.attrs):kOp.K w (B.opC c) (o7L (B.opC c) (.slice D c.attrs.length d)):=by
 have h:=kOp_K_of (x:=B.opC c) (A:=D) (c:=d) (w:=w) (by rw[opC_attrs]; exact hl) (by rw[opC_attrs]; exact hC)
 unfold opV at h
 rw[opC_attrs]at h
 exact h
theorem docSz {cs:List CellA}(h:∀ c∈cs,B.cErr c=0)(hz:∀ i,i<cs.length→B.cellSz (cs.getD i cell0)):(∀ i,i<(cs.map B.opC).length→opSz ((cs.map B.opC).getD i op0))∧B.txS (cs.map B.opC)≤64*cs.length:=by
 have hz':∀ c∈cs,B.cellSz c:=fun c hc=>by
  obtain⟨i,hi,rfl⟩:=List.mem_iff_getElem.1 hc
  have:=hz i hi
  rwa [List.getD_eq_getElem?_getD,List.getElem?_eq_getElem hi]at this
 refine⟨fun i hi=>?_,B.doc_tx cs fun c hc=>⟨h c hc,hz' c hc⟩⟩
 have hm:=getD_mem op0 hi
 obtain⟨c,hc,e⟩:=List.mem_map.1 hm
 rw[←e]
 exact(B.op_sz (h c hc) (hz' c hc)).1
set_option maxHeartbeats 4000000 in
theorem r9doc_any (A:Option Addr)(c:Nat)(cs:List CellA)(W0 w:World)(hW:Below W0.heap.size W0 w)(hx:kCell.C W0 A cs.length cs)(hn:cs.length≤500000)(hz:∀ i,i<cs.length→B.cellSz (cs.getD i cell0))(hg:∀ c∈cs,B.cErr c=0):Calls Tryz.prog 95 #[.slice A cs.length c] w fun e w'=>∃ A1 c1,e=.returned (.slice A1 (B.can (cs.map B.opC)).length c1)∧MixK kOp op0 102 w.heap.size W0 w' A1 (B.can (cs.map B.opC)).length c1 (B.can (cs.map B.opC))∧Below w.heap.size w w':=by
 have hpl:cs.length≤9223372036854775807:=hx.2.1
 obtain⟨hsz,htx⟩:=docSz hg hz
 refine en Tryz.func95 rfl 21 [(0,aL A cs c)] (fun R_ hR_=>?_)
 refine sg (xe0 1 [(0,aL A cs c)] ?_)
 refine nl (sg (xw 1 [] [(6,.slice (some ⟨w.heap.size,0,none⟩) 0 0)] [] (w.alloc (.cells #[] 102)) [] trivial ?_))
 obtain⟨w1,w5,b2,k3,z4⟩:=new_world w #[] 102
 rw[w5]
 refine xr0 1 [(3,.slice (some ⟨w.heap.size,0,none⟩) 0 0)] [6] ?_
 refine nl (sq (sg (xr0 3 [(7,aL A cs c),(8,i6 (cs.length:Int)),(9,i6 0)] [0] ?_)))
 refine nl (X_block ?_)
 have r6:=Kd.R_litB kOp (W:=w) (e:=102) (cs:=#[]) [] k3 (repsOp0 [] (fun _ h=>by cases h)) (Nat.le_of_ble_eq_true (by kernel_rfl))
 refine X_loop (ι:=Nat×Option Addr×Nat) (fun⟨i,A3,c3⟩=>[(3,aL A3 ((cs.take i).map B.opC) c3),(7,aL A cs c),(8,i6 (cs.length:Int)),(9,i6 (i:Int))]) (fun⟨i,A3,c3⟩ wl=>i≤cs.length∧MixK kOp op0 102 w.heap.size W0 wl A3 ((cs.take i).map B.opC).length c3 ((cs.take i).map B.opC)∧w.heap.size≤wl.heap.size∧Below w.heap.size w wl) (fun⟨i,A3,c3⟩=>cs.length-i) (0,(some ⟨w.heap.size,0,none⟩),0) ⟨Nat.zero_le _,(MixK.nil (z:=op0) (B:=w.heap.size) (W0:=W0) r6 (Nat.le_refl _)),(b2).size,b2⟩ (by kernel_rfl) ?_
 rintro⟨i,A3,c3⟩ wl ⟨hi,hm3,hle,HB⟩
 refine sq (X_region ?_)
 by_cases c7:(i:Int)<(cs.length:Int)
 ·refine xr1 1 [(10,.eq bT)] [(10,bT)] [] (dT c7) ?_
  refine nl (sq (ct (sk (sq (bk (sq (X_region ?_)))))))
  obtain⟨ad8,B11,c12,a9,c10,l13,C14⟩:=C_cellK hx (bt hW HB) (i:=(i:Int)) (by omega) (by omega)
  replace c10:CellsAt wl (ad8.add ((i:Int).toNat*6)) (c6L (cs.getD i cell0) (aL B11 (cs.getD i cell0).attrs c12)):=c10
  replace l13:(cs.getD i cell0).attrs.length≤c12:=l13
  replace C14:kAttr.C W0 B11 ((cs.getD i cell0).attrs.length) (cs.getD i cell0).attrs:=C14
  refine xw 3 [(11,.idx ad8),(12,.load (.agg (c6A (cs.getD i cell0) (aL B11 (cs.getD i cell0).attrs c12))))] [(5,pw wl.heap.size 0),(12,.agg (c6A (cs.getD i cell0) (aL B11 (cs.getD i cell0).attrs c12)))] [10] (wl.alloc (.cells #[.int .i32 0,s0,i6 0,i6 0,s0,.slice none 0 0] 51)) [A=some ad8,(0:Int)≤(i:Int),(i:Int)<(cs.length:Int),la 51 (ad8.add ((i:Int).toNat*6)) (.agg (c6A (cs.getD i cell0) (aL B11 (cs.getD i cell0).attrs c12))) wl] ⟨a9,(by omega),(by omega),loadsE rfl rfl c10 0 ⟨by kernel_rfl,by kernel_rfl⟩,trivial⟩ ?_
  obtain⟨w15,w19,b16,k17,z18⟩:=new_world wl #[.int .i32 0,s0,i6 0,i6 0,s0,.slice none 0 0] 51
  rw[w19]
  refine xst (.agg (c6A (cs.getD i cell0) (aL B11 (cs.getD i cell0).attrs c12))) k17 0 (c6A (cs.getD i cell0) (aL B11 (cs.getD i cell0).attrs c12)) (fun w20 g21 k22 z23=>?_)
  refine nl (rg (xr 2 [(14,.load (.agg (c6A (cs.getD i cell0) (aL B11 (cs.getD i cell0).attrs c12))))] [(13,aL A3 ((cs.take i).map B.opC) c3),(14,.agg (c6A (cs.getD i cell0) (aL B11 (cs.getD i cell0).attrs c12)))] [3,5,12] [la 51 (⟨wl.heap.size,0,none⟩) (.agg (c6A (cs.getD i cell0) (aL B11 (cs.getD i cell0).attrs c12))) w20] ⟨loadsB rfl rfl k22 0 ⟨by kernel_rfl,by kernel_rfl⟩,trivial⟩ ?_))
  refine xc 157 ent157 [.agg (c6A (cs.getD i cell0) (aL B11 (cs.getD i cell0).attrs c12))] (r9op_any (cs.getD i cell0) _ _ _) ?_
  rintro e w24 ⟨rfl,b25⟩; refine⟨_,rfl,?_⟩
  refine xw 1 [] [(16,.slice (some ⟨w24.heap.size,0,none⟩) 1 1)] [14,15] (w24.alloc (.cells (o7A (B.opC (cs.getD i cell0)) (aL B11 (cs.getD i cell0).attrs c12)) 102)) [] trivial ?_
  obtain⟨w26,w30,b27,k28,z29⟩:=new_world w24 (o7A (B.opC (cs.getD i cell0)) (aL B11 (cs.getD i cell0).attrs c12)) 102
  rw[w30]
  have B31:Below wl.heap.size wl w26:=(bt (bt (bg b16 g21 (Nat.le_refl _)) b25) b27)
  have R32:=Kd.R_litB (kRaw 7) (W:=w24) (e:=102) (cs:=(o7A (B.opC (cs.getD i cell0)) (aL B11 (cs.getD i cell0).attrs c12))) [(o7L (B.opC (cs.getD i cell0)) (aL B11 (cs.getD i cell0).attrs c12))] k28 (rawL1 _ rfl (by kernel_rfl)) (Nat.le_of_ble_eq_true (by kernel_rfl))
  have B39:Below w.heap.size w w26:=(bt (bt (bg (bt HB b16) g21 hle) b25) b27)
  refine XL_appendMixK (d:=kOp) (W0:=W0) (B:=w.heap.size) (c':=1) (m:=1) op0 rfl rfl rfl 102 (.agg #[i6 0,s0,i6 0,i6 0,s0,i6 0,.slice none 0 0]) 88 Tryz.underlying22 info102 rfl (by decide) (by omega) ((cs.take i).map B.opC) [B.opC (cs.getD i cell0)] [(o7L (B.opC (cs.getD i cell0)) (aL B11 (cs.getD i cell0).attrs c12))] (by kernel_rfl) (MixK.below hm3 B31) (Kd.R_C R32) rfl (fun i_ hi_=>by have h_:i_=0:=(by omega); subst h_; exact opK_cell l13 C14) (B39).size (by rw[List.length_map,List.length_take]; omega) ?_
  intro A33 c34 w35 m36 g37 l38
  rw[map_snocC cs i (by omega)]at m36 ⊢
  refine xr0 1 [(3,aL A33 ((cs.take (i+1)).map B.opC) c34)] [13,16,17] ?_
  refine nl (rg (xe1 2 [(18,.eq (i6 ((i:Int)+1)))] [(3,aL A33 ((cs.take (i+1)).map B.opC) c34),(7,aL A cs c),(8,i6 (cs.length:Int)),(9,i6 ((i:Int)+1))] (w6 ((i:Int)+1)) ?_))
  refine nl ?_
  refine⟨(i+1,A33,c34),by kernel_rfl,?_,?_⟩
  ·exact⟨by omega,m36,((bgo B39 g37 l38 (Nat.le_refl _))).size,(bgo B39 g37 l38 (Nat.le_refl _))⟩
  (try dsimp only); omega
 refine xr1 1 [(10,.eq bF)] [(10,bF)] [] (dF c7) ?_
 refine nl (sq (cf (X_exit (sg (xe0 1 [(19,aL A3 ((cs.take i).map B.opC) c3)] ?_)))))
 have hxi:cs.take i=cs:=List.take_of_length_le (by omega)
 obtain⟨hd1,hd2,hd3⟩:=B.doc_ok cs hg
 have hdl:(cs.map B.opC).length=cs.length:=List.length_map ..
 rw[hxi]at hm3
 rw[hxi]
 refine xc 158 ent158 [aL A3 (cs.map B.opC) c3] (r6canonical_any _ _ (cs.map B.opC) W0 _ (bt hW HB) (RX.OpK.of_mix hm3 (bt hW HB)) hd1 (by rw[hd2]; decide) (by omega) hsz (by omega)) ?_
 rintro e w42 ⟨A40,c41,rfl,m43,b44⟩; refine⟨_,rfl,?_⟩
 refine xe0 1 [(2,aL A40 (B.can (cs.map B.opC)) c41)] ?_
 refine nl (X_ret (rj [aL A40 (B.can (cs.map B.opC)) c41] hR_ ?_))
 exact⟨_,_,rfl,(MixK.low m43 hle),(bt HB b44)⟩
set_option maxHeartbeats 4000000 in
theorem r9of_any (A:Option Addr)(c:Nat)(cs:List CellA)(W0 w:World)(hW:Below W0.heap.size W0 w)(hx:kCell.C W0 A cs.length cs)(hn:cs.length≤500000)(hz:∀ i,i<cs.length→B.cellSz (cs.getD i cell0))(hT:Tabs w):Calls Tryz.prog 23 #[.slice A cs.length c] w fun e w'=>Below w.heap.size w w'∧(((B.cOf cs).2=0∧∃ A1 c1,e=.returned (.tuple #[.slice A1 (B.can (cs.map B.opC)).length c1,i6 0,i6 0])∧MixK kOp op0 102 w.heap.size W0 w' A1 (B.can (cs.map B.opC)).length c1 (B.can (cs.map B.opC)))∨((B.cOf cs).2≠0∧e=.returned (.tuple #[.slice none 0 0,i6 ((B.cOf cs).1:Int),i6 ((B.cOf cs).2:Int)]))):=by
 have hpl:cs.length≤9223372036854775807:=hx.2.1
 refine en Tryz.func23 rfl 24 [(0,aL A cs c)] (fun R_ hR_=>?_)
 refine sg (xe0 3 [(0,aL A cs c)] ?_)
 refine nl (sq (sg (xr0 3 [(8,aL A cs c),(9,i6 (cs.length:Int)),(10,i6 0)] [] ?_)))
 refine nl (bk (X_loop (ι:=Nat) (fun i=>[(0,aL A cs c),(8,aL A cs c),(9,i6 (cs.length:Int)),(10,i6 (i:Int))]) (fun i wl=>i≤cs.length∧(∀ j,j<i→B.cErr (cs.getD j cell0)=0)∧Below w.heap.size w wl) (fun i=>cs.length-i) 0 ⟨Nat.zero_le _,fun _ h_=>absurd h_ (Nat.not_lt_zero _),(Below.refl _ _)⟩ (by kernel_rfl) ?_))
 rintro i wl ⟨hi,hb0,HB⟩
 refine sq (X_region ?_)
 by_cases c_1:(i:Int)<(cs.length:Int)
 ·refine xr1 1 [(11,.eq bT)] [(11,bT)] [] (dT c_1) ?_
  refine nl (sq (ct (sk (sq (bk (sg (xr0 1 [(12,nv i)] [11] ?_)))))))
  obtain⟨ad2,B5,c6,a3,c4,l7,C8⟩:=C_cellK hx (bt hW HB) (i:=(i:Int)) (by omega) (by omega)
  replace c4:CellsAt wl (ad2.add ((i:Int).toNat*6)) (c6L (cs.getD i cell0) (aL B5 (cs.getD i cell0).attrs c6)):=c4
  replace l7:(cs.getD i cell0).attrs.length≤c6:=l7
  replace C8:kAttr.C W0 B5 ((cs.getD i cell0).attrs.length) (cs.getD i cell0).attrs:=C8
  refine xw 3 [(13,.idx ad2),(14,.load (.agg (c6A (cs.getD i cell0) (aL B5 (cs.getD i cell0).attrs c6))))] [(6,pw wl.heap.size 0),(14,.agg (c6A (cs.getD i cell0) (aL B5 (cs.getD i cell0).attrs c6)))] [] (wl.alloc (.cells #[.int .i32 0,s0,i6 0,i6 0,s0,.slice none 0 0] 51)) [A=some ad2,(0:Int)≤(i:Int),(i:Int)<(cs.length:Int),la 51 (ad2.add ((i:Int).toNat*6)) (.agg (c6A (cs.getD i cell0) (aL B5 (cs.getD i cell0).attrs c6))) wl] ⟨a3,(by omega),(by omega),loadsE rfl rfl c4 0 ⟨by kernel_rfl,by kernel_rfl⟩,trivial⟩ ?_
  obtain⟨w9,w13,b10,k11,z12⟩:=new_world wl #[.int .i32 0,s0,i6 0,i6 0,s0,.slice none 0 0] 51
  rw[w13]
  refine xr0 1 [(5,nv i)] [12] ?_
  refine xst (.agg (c6A (cs.getD i cell0) (aL B5 (cs.getD i cell0).attrs c6))) k11 0 (c6A (cs.getD i cell0) (aL B5 (cs.getD i cell0).attrs c6)) (fun w14 g15 k16 z17=>?_)
  refine nl (sg (xr 1 [(15,.load (.agg (c6A (cs.getD i cell0) (aL B5 (cs.getD i cell0).attrs c6))))] [(15,.agg (c6A (cs.getD i cell0) (aL B5 (cs.getD i cell0).attrs c6)))] [6,14] [la 51 (⟨wl.heap.size,0,none⟩) (.agg (c6A (cs.getD i cell0) (aL B5 (cs.getD i cell0).attrs c6))) w14] ⟨loadsB rfl rfl k16 0 ⟨by kernel_rfl,by kernel_rfl⟩,trivial⟩ ?_))
  have B18:Below W0.heap.size W0 w14:=(bg (bt (bt hW HB) b10) g15 ((bt hW HB)).size)
  refine xc 94 ent94 [.agg (c6A (cs.getD i cell0) (aL B5 (cs.getD i cell0).attrs c6))] (r9check_any (cs.getD i cell0) _ _ _ (Kd.C_below C8 B18) (hz i (by omega)) (hT.below (bg (bt HB b10) g15 (HB).size))) ?_
  rintro e w_19 ⟨rfl,b20⟩; refine⟨_,rfl,?_⟩
  refine xe0 1 [(0,aL A cs c),(5,nv i),(7,i6 (B.cErr (cs.getD i cell0):Int)),(8,aL A cs c),(9,i6 (cs.length:Int)),(10,nv i)] ?_
  refine nl (sg (xr0 1 [(17,i6 (B.cErr (cs.getD i cell0):Int))] [] ?_))
  by_cases c21:(B.cErr (cs.getD i cell0):Int)=0
  ·refine xr1 1 [(18,.eq bF)] [(18,bF)] [17] (nF c21) ?_
   refine nl (cf (sk (rg (xr1 2 [(21,.eq (i6 ((i:Int)+1)))] [(10,i6 ((i:Int)+1))] [5,7,18] (w6 ((i:Int)+1)) ?_))))
   refine nl ?_
   have B22:Below w.heap.size w w_19:=(bt (bg (bt HB b10) g15 (HB).size) b20)
   refine⟨(i+1),by kernel_rfl,?_,?_⟩
   ·have hci:B.cErr (cs.getD i cell0)=0:=by omega
    exact⟨by omega,fun j_ hj_=>(by by_cases h_:j_<i; (· exact hb0 j_ h_); (· obtain rfl:j_=i:=(by omega); exact hci)),B22⟩
   (try dsimp only); omega
  refine xr1 1 [(18,.eq bT)] [(18,bT)] [17] (nT c21) ?_
  refine nl (ct (sg (xe0 5 [(2,.slice none 0 0),(3,nv i),(4,i6 (B.cErr (cs.getD i cell0):Int))] ?_)))
  refine nl (X_ret (rj [.slice none 0 0,i6 (i:Int),i6 (B.cErr (cs.getD i cell0):Int)] hR_ ?_))
  have B23:Below w.heap.size w w_19:=(bt (bg (bt HB b10) g15 (HB).size) b20)
  have hbn:B.cErr (cs.getD i cell0)≠0:=by omega
  have hof:B.cOf cs=(i,B.cErr (cs.getD i cell0)):=B.first_at hb0 hbn (show i<cs.length by omega)
  rw[hof]
  exact⟨B23,.inr ⟨hbn,rfl⟩⟩
 refine xr1 1 [(11,.eq bF)] [(11,bF)] [] (dF c_1) ?_
 refine nl (sq (cf (X_exit (sg (xe0 1 [(22,aL A cs c)] ?_)))))
 have hof:B.cOf cs=(0,0):=B.first_none fun j_ hj_=>hb0 j_ (by omega)
 have hg:=B.cOf_ok (cs:=cs) (by rw[hof])
 refine xc 95 ent95 [aL A cs c] (r9doc_any A c cs W0 _ (bt hW HB) hx hn hz hg) ?_
 rintro e w26 ⟨A24,c25,rfl,m27,b28⟩; refine⟨_,rfl,?_⟩
 refine xe0 3 [(2,aL A24 (B.can (cs.map B.opC)) c25),(3,i6 0),(4,i6 0)] ?_
 refine nl (X_ret (rj [.slice A24 ((B.can (cs.map B.opC)).length) c25,i6 0,i6 0] hR_ ?_))
 rw[hof]
 exact⟨(bt HB b28),.inl ⟨rfl,A24,c25,rfl,(MixK.low m27 (HB).size)⟩⟩
end Go.Proofs.YtgphmfnkeolbcaaGreatDoor
