import Derived.Test.YtgphmfnkeolbcaaGreatDoorT2
import Derived.Test.YtgphmfnkeolbcaaGreatDoorBld
import Derived.Test.YtgphmfnkeolbcaaGreatDoorCls
import Derived.Test.YtgphmfnkeolbcaaGreatDoorA1
import Derived.Test.YtgphmfnkeolbcaaGreatDoorAn2
/- What content.Length, Cut, Join, Same, Cells and Newlines answer. Conditions: sizes, the tables of utf8, the errors' variables. -/
set_option linter.unusedVariables false
set_option linter.unusedSimpArgs false
set_option maxRecDepth 100000
namespace Go.Proofs.YtgphmfnkeolbcaaGreatDoor
open Go Go.RowKit Go.Proofs.YtgphmfnkeolbcaaGreatDoorW.PrintWords RX
theorem ent200 :Ent Tryz.prog 200:=ent_of Tryz.func200 (by kernel_rfl) rfl
theorem info51 :(Tryz.prog.info? 51).map (fun i=>(i.zero,i.size,i.bytes))=some (some (.agg #[.int .i32 0,s0,i6 0,i6 0,s0,.slice none 0 0]),6,80):=by kernel_rfl
abbrev ErrsC (w:World)(es:List Addr):Prop:=ErrsOn [1,5,6,7,8,9,10] w es
theorem ErrsC.i {w:World}{es:List Addr}(h:ErrsC w es):ErrsI w es:=h.sub (by decide)
theorem refuse_val {o:OpA}(h:refuseP o=0)(hk:o.kind=2):plainOk o.vk o.vn o.vt=true:=by
 have h2:=(refuse_utf h).2.1 hk
 unfold plainErr at h2
 cases h3:plainOk o.vk o.vn o.vt with
 | true=>rfl
 | false=>rw[if_pos h3]at h2; cases h2
def cellR (at4:List At)(r:Nat):CellA:=⟨(r:Int),ByteArray.empty,0,0,ByteArray.empty,at4⟩
noncomputable def cellsP (o:OpA):List CellA:=if o.kind=2 then [⟨-1,o.text,o.vk,o.vn,o.vt,o.attrs⟩]else (U.sc o.text).map (cellR o.attrs)
noncomputable def cellsO (o:OpA):List CellA:=if refuseP o=0 then cellsP o else []
theorem cellsP_1 {o:OpA}(h:o.kind=1):cellsP o=(U.sc o.text).map (cellR o.attrs):=if_neg (by omega)
theorem cellsP_2 {o:OpA}(h:o.kind=2):cellsP o=[⟨-1,o.text,o.vk,o.vn,o.vt,o.attrs⟩]:=if_pos h
theorem cells_snoc (s:ByteArray)(at4:List At)(i:Nat)(h:i<(U.sc s).length):((U.sc s).take i).map (cellR at4)++[cellR at4 ((U.sc s)[i])]=((U.sc s).take (i+1)).map (cellR at4):=by
 rw[take_snocD 0 (U.sc s) i h,List.map_append,List.getD_eq_getElem?_getD,List.getElem?_eq_getElem h]; rfl
set_option maxHeartbeats 4000000 in
theorem ccells_any (o:OpA)(A:Option Addr)(c:Nat)(w:World)(hA:kAttr.C w A o.attrs.length o.attrs)(hz:opSz o)(hT:Tabs w)(es:List Addr)(hE:ErrsC w es):Calls Tryz.prog 200 #[.agg (o7A o (.slice A o.attrs.length c))] w fun e w'=>∃ A' c',e=.returned (.tuple #[.slice A' (cellsO o).length c',errV es (refuseP o)])∧kCell.R 51 w' w.heap.size (OkFrom w.heap.size) (.slice A' (cellsO o).length c') (cellsO o)∧Below w.heap.size w w':=by
 have hz1:=hz.1
 have hz3:=hz.2.2.1
 have hscl:=U.sc_le o.text
 refine en Tryz.func200 rfl 53 [(0,.agg (o7A o (aL A o.attrs c)))] (fun R_ hR_=>?_)
 refine sg (xwe 1 [] [(1,pw w.heap.size 0)] (w.alloc (.cells (o7A o (aL A o.attrs c)) 102)) [] trivial ?_)
 obtain⟨w1,w5,b2,k3,z4⟩:=new_world w (o7A o (aL A o.attrs c)) 102
 rw[w5]
 refine xr0 2 [] [] ?_
 refine nl (sg (xe 1 [(12,.load (.agg (o7A o (aL A o.attrs c))))] [(12,.agg (o7A o (aL A o.attrs c)))] [la 102 (⟨w.heap.size,0,none⟩) (.agg (o7A o (aL A o.attrs c))) w1] ⟨loadsB rfl rfl k3 0 ⟨by kernel_rfl,by kernel_rfl⟩,trivial⟩ ?_))
 refine xc 213 ent213 [.agg (o7A o (aL A o.attrs c))] (cof_any o _ _ _ (Kd.C_below hA b2) hz (hT.below b2) es (hE.i.below b2)) ?_
 rintro e w9 ⟨v6,rfl,M7,N8,b10⟩; refine⟨_,rfl,?_⟩
 refine xe0 5 [(4,v6),(5,errV es (refuseP o))] ?_
 refine nl (sq (sg (xr0 1 [(16,errV es (refuseP o))] [] ?_)))
 by_cases c11:(refuseP o)=0
 ·rw[show errV es (refuseP o)=.nilIface from by rw[c11]; rfl]
  refine xr0 1 [(5,.nilIface),(17,bF)] [16] ?_
  refine nl (cf (sk (sq (X_region ?_))))
  have p12:=M7 c11
  rcases refuse_kind c11 with k13|k13
  ·rw[pOf_ins k13]at p12
   obtain⟨A14,c15,e16,l17,C18⟩:=kPiece_ins (kPiece.K_of_M p12)
   obtain rfl:=(List.cons.inj e16).1
   refine xe0 1 [(4,.iface 249 (.agg #[.slice A14 o.attrs.length c15,sT o.text,i6 ((U.sc o.text).length:Int)])),(6,.slice none 0 0)] ?_
   refine nl (sq (sg (xr0 1 [(19,.iface 249 (.agg #[.slice A14 o.attrs.length c15,sT o.text,i6 ((U.sc o.text).length:Int)]))] [4] ?_)))
   refine nl (bk (sg (xr0 3 [(21,bT),(22,.agg #[.slice A14 o.attrs.length c15,sT o.text,i6 ((U.sc o.text).length:Int)])] [] ?_)))
   refine nl (ct (sg (xw 1 [] [(7,pw w9.heap.size 0)] [19,21] (w9.alloc (.cells #[.slice none 0 0,s0,i6 0] 249)) [] trivial ?_)))
   obtain⟨w19,w23,b20,k21,z22⟩:=new_world w9 #[.slice none 0 0,s0,i6 0] 249
   rw[w23]
   refine xst (.agg #[.slice A14 o.attrs.length c15,sT o.text,i6 ((U.sc o.text).length:Int)]) k21 0 #[.slice A14 o.attrs.length c15,sT o.text,i6 ((U.sc o.text).length:Int)] (fun w24 g25 k26 z27=>?_)
   refine nl (sg (xr1 2 [(24,.load (sT o.text))] [(24,sT o.text)] [22] (lc 9 k26 1) ?_))
   refine XL_range (s:=o.text) rfl rfl rfl Tryz.underlying9 rfl (fun w28 b29 i30=>?_)
   refine nl (X_block ?_)
   refine X_loop (ι:=Nat×Option Addr×Nat×List CellA) (fun⟨i,A6,c6,zs6⟩=>[(6,aL A6 zs6 c6),(7,pw w9.heap.size 0),(25,pw w24.heap.size 0)]) (fun⟨i,A6,c6,zs6⟩ wl=>i≤(U.sc o.text).length∧wl.heap[w24.heap.size]?=some (.stringIter o.text (U.pl o.text i))∧zs6=((U.sc o.text).take i).map (cellR o.attrs)∧kCell.R 51 wl w24.heap.size (OkFrom w24.heap.size) (aL A6 zs6 c6) zs6∧Below w24.heap.size w24 wl) (fun⟨i,A6,c6,zs6⟩=>(U.sc o.text).length-i) (0,none,0,[]) ⟨by omega,by rw[U.pl_zero]; exact i30,rfl,Kd.R_nil _ _ _ _ _,b29⟩ (by kernel_rfl) ?_
   rintro⟨i,A6,c6,zs6⟩ wl ⟨hi,hit,he6,hr6,HB⟩
   have hzl:zs6.length=min i (U.sc o.text).length:=by rw[he6,List.length_map,List.length_take]
   refine sg (XL_next (s:=o.text) (g:=w24.heap.size) (pos:=(U.pl o.text i)) rfl rfl rfl rfl hit ?_ ?_)
   ·intro p31 w32 g33 i34
    have r35:=Kd.R_iter hr6 hit g33
    refine xr0 1 [(26,.tuple #[bT,i6 ((U.pl o.text i):Int),.int .i32 ((Utf8.decode o.text (U.pl o.text i)).1:Int)]),(27,bT)] [] ?_
    refine nl (sq (ct (sk (bk (sq (X_region ?_))))))
    have hlt:=(U.pl_lt_iff (refuse_utf c11).1 i hi).1 p31
    have hst:=U.pl_step (refuse_utf c11).1 i hlt
    have hdr:((Utf8.decode o.text (U.pl o.text i)).1:Int)=(((U.sc o.text)[i]:Nat):Int):=by rw[hst.1]
    refine xr0 2 [(9,.int .i32 ((Utf8.decode o.text (U.pl o.text i)).1:Int))] [26,27] ?_
    refine nl (rg (xr 4 [(32,.load (.agg #[aL A14 o.attrs c15]))] [(29,aL A6 zs6 c6),(30,.int .i32 ((Utf8.decode o.text (U.pl o.text i)).1:Int)),(32,.agg #[aL A14 o.attrs c15])] [6,9] [la 126 (⟨w9.heap.size,0,none⟩) (.agg #[aL A14 o.attrs c15]) w32] ⟨loadsB rfl rfl (Blk.below k26 (bg HB g33 (Nat.le_refl _))) 0 ⟨by kernel_rfl,by kernel_rfl⟩,trivial⟩ ?_))
    have B36:Below w9.heap.size w9 w32:=(bg (bt (bg b20 g25 (Nat.le_refl _)) HB) g33 ((bg b20 g25 (Nat.le_refl _))).size)
    refine xc 219 ent219 [.agg #[aL A14 o.attrs c15]] (attributes_any _ _ o.attrs _ (Kd.C_below C18 B36) (by omega)) ?_
    rintro e w39 ⟨A37,c38,rfl,l41,r42,b40⟩; refine⟨_,rfl,?_⟩
    refine xw 2 [] [(35,.slice (some ⟨w39.heap.size,0,none⟩) 1 1)] [30,32,33] (w39.alloc (.cells #[.int .i32 ((Utf8.decode o.text (U.pl o.text i)).1:Int),s0,i6 0,i6 0,s0,aL A37 o.attrs c38] 51)) [] trivial ?_
    obtain⟨w43,w47,b44,k45,z46⟩:=new_world w39 #[.int .i32 ((Utf8.decode o.text (U.pl o.text i)).1:Int),s0,i6 0,i6 0,s0,aL A37 o.attrs c38] 51
    rw[w47]
    obtain⟨okp48,M49,hok50⟩:=Kd.M_rowApart r42 ((bg HB g33 (Nat.le_refl _))).size (Kd.R_below r35 b40) (by decide)
    rw[←w47]
    refine XL_append kCell rfl rfl rfl w24.heap.size 51 (.agg #[.int .i32 0,s0,i6 0,i6 0,s0,.slice none 0 0]) 80 Tryz.underlying39 info51 rfl (by decide) (by omega) zs6 (⟨((Utf8.decode o.text (U.pl o.text i)).1:Int),ByteArray.empty,0,0,ByteArray.empty,o.attrs⟩:CellA) [.int .i32 ((Utf8.decode o.text (U.pl o.text i)).1:Int),s0,i6 0,i6 0,s0,aL A37 o.attrs c38] okp48 (by kernel_rfl) (kCell_M (x:=(⟨((Utf8.decode o.text (U.pl o.text i)).1:Int),ByteArray.empty,0,0,ByteArray.empty,o.attrs⟩:CellA)) M49) hok50 (Kd.R_below r35 b40) ((bt (bg HB g33 (Nat.le_refl _)) b40)).size (by first|omega|(simp; omega)) ?_
    intro A51 c52 w53 r54 c55 g56 l57 a58
    have i60:=Kd.iter_kept ((b40.block _ (Array.getElem?_eq_some_iff.1 i34).1).trans i34) (Kd.R_below r35 b40) g56
    refine xr0 1 [(6,aL A51 (zs6++[(⟨((Utf8.decode o.text (U.pl o.text i)).1:Int),ByteArray.empty,0,0,ByteArray.empty,o.attrs⟩:CellA)]) c52)] [29,35,36] ?_
    refine nl ?_
    have B61:Below w24.heap.size w24 w53:=(bgo (bt (bg HB g33 (Nat.le_refl _)) b40) g56 l57 (Nat.le_refl _))
    refine⟨(i+1,A51,c52,(zs6++[(⟨((Utf8.decode o.text (U.pl o.text i)).1:Int),ByteArray.empty,0,0,ByteArray.empty,o.attrs⟩:CellA)])),by kernel_rfl,?_,?_⟩
    ·have hdc:(Utf8.decode o.text (U.pl o.text i)).2=(U.enc (U.sc o.text)[i]).length:=by rw[hst.1]
     rw[hdc,←hst.2.1]at i60
     exact⟨by omega,i60,by rw[hdr,he6]; exact cells_snoc o.text o.attrs i hlt,r54,B61⟩
    (try dsimp only); omega
   intro p62
   refine xr0 1 [(26,.tuple #[bF]),(27,bF)] [] ?_
   refine nl (sq (cf (X_exit (sg (xe0 3 [(2,aL A6 zs6 c6),(3,.nilIface)] ?_)))))
   refine nl (X_ret (rj [.slice A6 zs6.length c6,.nilIface] hR_ ?_))
   have B63:Below w.heap.size w w24:=(bg (bt (bt b2 b10) b20) g25 ((bt b2 b10)).size)
   have hend:i=(U.sc o.text).length:=by have:=mt (U.pl_lt_iff (refuse_utf c11).1 i hi).2 p62; omega
   rw[hend,List.take_length]at he6
   rw[show cellsO o=zs6 from by rw[he6,←cellsP_1 k13]; exact if_pos c11,c11]
   exact⟨_,_,rfl,Kd.R_low hr6 (B63).size,(bt B63 HB)⟩
  rw[pOf_emb k13]at p12
  obtain⟨A64,c65,e66,l67,C68⟩:=kPiece_emb (kPiece.K_of_M p12)
  obtain rfl:=(List.cons.inj e66).1
  have hval:o.val=(o.vk,o.vn,o.vt):=rfl
  rw[hval]at p12 ⊢
  refine xe0 1 [(4,.iface 253 (.agg #[.slice A64 o.attrs.length c65,sT o.text,valV (o.vk,o.vn,o.vt)])),(6,.slice none 0 0)] ?_
  refine nl (sq (sg (xr0 1 [(19,.iface 253 (.agg #[.slice A64 o.attrs.length c65,sT o.text,valV (o.vk,o.vn,o.vt)]))] [4] ?_)))
  refine nl (bk (sg (xr0 3 [(21,bF),(22,.agg #[.slice none 0 0,s0,i6 0])] [] ?_)))
  refine nl (cf (sq (X_region ?_)))
  by_cases c69:o.vk=1
  ·rw[valV1 (v:=(o.vk,o.vn,o.vt)) c69]
   refine xr0 3 [(38,bT),(39,.agg #[.slice A64 o.attrs.length c65,sT o.text,.iface 296 (.bool (decide (o.vn=1)))])] [19,21,22] ?_
   refine nl (ct (sg (xw 1 [] [(10,pw w9.heap.size 0)] [38] (w9.alloc (.cells #[.slice none 0 0,s0,.nilIface] 253)) [] trivial ?_)))
   obtain⟨w70,w74,b71,k72,z73⟩:=new_world w9 #[.slice none 0 0,s0,.nilIface] 253
   rw[w74]
   refine xst (.agg #[.slice A64 o.attrs.length c65,sT o.text,.iface 296 (.bool (decide (o.vn=1)))]) k72 0 #[.slice A64 o.attrs.length c65,sT o.text,.iface 296 (.bool (decide (o.vn=1)))] (fun w75 g76 k77 z78=>?_)
   refine nl (X_grow [] 13 (tf 0 13) (by kernel_rfl) (by kernel_rfl) (by kernel_rfl) (fun wd79 b80 h81=>?_))
   refine XB_run (fuel':=6) (Below.refl _ _) [0,1,2,3,4,6,7] [(42,.load (sT o.text)),(44,.load (.iface 296 (.bool (decide (o.vn=1))))),(47,.load (.agg #[aL A64 o.attrs c65]))] [.slice none 0 0,pw w9.heap.size 1,sT o.text,pw w9.heap.size 2,.iface 296 (.bool (decide (o.vn=1))),pw w9.heap.size 0,.agg #[aL A64 o.attrs c65]] #[true,true,true,true,true,false,true,true,false,false,false,false,false] [(40,.slice none 0 0),(42,sT o.text),(44,.iface 296 (.bool (decide (o.vn=1)))),(47,.agg #[aL A64 o.attrs c65])] (fun w_=>[la 9 (⟨w9.heap.size,1,none⟩) (sT o.text) w_,la 251 (⟨w9.heap.size,2,none⟩) (.iface 296 (.bool (decide (o.vn=1)))) w_,la 126 (⟨w9.heap.size,0,none⟩) (.agg #[aL A64 o.attrs c65]) w_]) (fun w_ hC_=>⟨loads1 rfl (Blk.cell (Blk.below k77 (bt b80 hC_)) 1 _ rfl),loads1 rfl (Blk.cell (Blk.below k77 (bt b80 hC_)) 2 _ rfl),loadsB rfl rfl (Blk.below k77 (bt b80 hC_)) 0 ⟨by kernel_rfl,by kernel_rfl⟩,trivial⟩) ?_
   refine XB_mid (fuel':=5) 5 (tf 8 5) _ rfl (by kernel_rfl) (by kernel_rfl) rfl ?_
   refine XL_inv 256 #[.bool (decide (o.vn=1))] rfl rfl (by kernel_rfl) (by kernel_rfl) (flagPlain_any o.vk o.vn o.vt _ (refuse_val c11 k13) c69) ?_
   rintro e w82 ⟨rfl,b83⟩; refine⟨_,rfl,?_⟩
   refine nl ?_
   refine⟨b83,?_⟩
   refine XB_mid (fuel':=4) 8 (tf 9 4) _ rfl (by kernel_rfl) (by kernel_rfl) rfl ?_
   have B84:Below w9.heap.size w9 w82:=(bt (bt (bg b71 g76 (Nat.le_refl _)) b80) b83)
   refine xc 219 ent219 [.agg #[aL A64 o.attrs c65]] (attributes_any _ _ o.attrs _ (Kd.C_below C68 B84) (by omega)) ?_
   rintro e w87 ⟨A85,c86,rfl,l89,r90,b88⟩; refine⟨_,rfl,?_⟩
   refine nl ?_
   refine⟨(bt b83 b88),?_⟩
   refine XB_runC (fuel':=3) (bt b83 b88) [9] [] [.agg #[.int .i32 (-1),sT o.text,i6 o.vk,i6 o.vn,sT o.vt,aL A85 o.attrs c86]] (tf 10 3) [(49,.agg #[.int .i32 (-1),sT o.text,i6 o.vk,i6 o.vn,sT o.vt,aL A85 o.attrs c86])] [42,44,45,47,48] (fun w_=>[]) (fun w_ hC_=>trivial) ?_
   refine XB_mid (fuel':=2) 10 (tf 11 2) _ rfl (by kernel_rfl) (by kernel_rfl) rfl ?_
   refine xw 1 [] [(50,.slice (some ⟨w87.heap.size,0,none⟩) 1 1)] [49] (w87.alloc (.cells #[.int .i32 (-1),sT o.text,i6 o.vk,i6 o.vn,sT o.vt,aL A85 o.attrs c86] 51)) [] trivial ?_
   obtain⟨w91,w95,b92,k93,z94⟩:=new_world w87 #[.int .i32 (-1),sT o.text,i6 o.vk,i6 o.vn,sT o.vt,aL A85 o.attrs c86] 51
   rw[w95]
   refine nl ?_
   refine⟨(bt (bt b83 b88) b92),?_⟩
   refine XB_mid (fuel':=1) 11 (tf 12 1) _ rfl (by kernel_rfl) (by kernel_rfl) rfl ?_
   obtain⟨okp96,M97,hok98⟩:=Kd.M_rowApart r90 (b83).size (Kd.R_nil kCell 51 _ wd79.heap.size (OkFrom wd79.heap.size)) (by decide)
   rw[←w95]
   refine XL_append kCell rfl rfl rfl wd79.heap.size 51 (.agg #[.int .i32 0,s0,i6 0,i6 0,s0,.slice none 0 0]) 80 Tryz.underlying39 info51 rfl (by decide) (by omega) ([]) (⟨(-1),o.text,o.vk,o.vn,o.vt,o.attrs⟩:CellA) [.int .i32 (-1),sT o.text,i6 o.vk,i6 o.vn,sT o.vt,aL A85 o.attrs c86] okp96 (by kernel_rfl) (kCell_M (x:=(⟨(-1),o.text,o.vk,o.vn,o.vt,o.attrs⟩:CellA)) M97) hok98 (Kd.R_nil kCell 51 _ wd79.heap.size (OkFrom wd79.heap.size)) ((bt b83 b88)).size (by decide) ?_
   intro A99 c100 w101 r102 c103 g104 l105 a106
   have e108:([]++[(⟨(-1),o.text,o.vk,o.vn,o.vt,o.attrs⟩:CellA)])=[(⟨-1,o.text,o.vk,o.vn,o.vt,o.attrs⟩:CellA)]:=rfl
   rw[e108]at r102 ⊢
   refine nl ?_
   have B109:Below wd79.heap.size wd79 w101:=(bgo (bt b83 b88) g104 l105 (Nat.le_refl _))
   refine⟨B109,?_⟩
   refine XB_run (fuel':=0) B109 [12] [] [aL A99 [(⟨-1,o.text,o.vk,o.vn,o.vt,o.attrs⟩:CellA)] c100] (tf 13 0) [(6,aL A99 [(⟨-1,o.text,o.vk,o.vn,o.vt,o.attrs⟩:CellA)] c100)] (fun w_=>[]) (fun w_ hC_=>trivial) ?_
   refine XB_done (by kernel_rfl) ?_
   refine sg (xe0 3 [(2,aL A99 [(⟨-1,o.text,o.vk,o.vn,o.vt,o.attrs⟩:CellA)] c100),(3,.nilIface)] ?_)
   refine nl (X_ret (rj [.slice A99 ([(⟨-1,o.text,o.vk,o.vn,o.vt,o.attrs⟩:CellA)].length) c100,.nilIface] hR_ ?_))
   have B110:Below w.heap.size w wd79:=(bt (bg (bt (bt b2 b10) b71) g76 ((bt b2 b10)).size) b80)
   have B111:Below w.heap.size w w101:=(bgo (bt (bt B110 b83) b88) g104 l105 (B110).size)
   rw[show cellsO o=[(⟨-1,o.text,o.vk,o.vn,o.vt,o.attrs⟩:CellA)]from by rw[show ([(⟨-1,o.text,o.vk,o.vn,o.vt,o.attrs⟩:CellA)]:List CellA)=cellsP o from(cellsP_2 k13).symm]; exact if_pos c11,c11]
   exact⟨_,_,rfl,Kd.R_low r102 (B110).size,B111⟩
  by_cases c112:o.vk=2
  ·rw[valV2 (v:=(o.vk,o.vn,o.vt)) c69 c112]
   refine xr0 3 [(38,bT),(39,.agg #[.slice A64 o.attrs.length c65,sT o.text,.iface 297 (i6 o.vn)])] [19,21,22] ?_
   refine nl (ct (sg (xw 1 [] [(10,pw w9.heap.size 0)] [38] (w9.alloc (.cells #[.slice none 0 0,s0,.nilIface] 253)) [] trivial ?_)))
   obtain⟨w113,w117,b114,k115,z116⟩:=new_world w9 #[.slice none 0 0,s0,.nilIface] 253
   rw[w117]
   refine xst (.agg #[.slice A64 o.attrs.length c65,sT o.text,.iface 297 (i6 o.vn)]) k115 0 #[.slice A64 o.attrs.length c65,sT o.text,.iface 297 (i6 o.vn)] (fun w118 g119 k120 z121=>?_)
   refine nl (X_grow [] 13 (tf 0 13) (by kernel_rfl) (by kernel_rfl) (by kernel_rfl) (fun wd122 b123 h124=>?_))
   refine XB_run (fuel':=6) (Below.refl _ _) [0,1,2,3,4,6,7] [(42,.load (sT o.text)),(44,.load (.iface 297 (i6 o.vn))),(47,.load (.agg #[aL A64 o.attrs c65]))] [.slice none 0 0,pw w9.heap.size 1,sT o.text,pw w9.heap.size 2,.iface 297 (i6 o.vn),pw w9.heap.size 0,.agg #[aL A64 o.attrs c65]] #[true,true,true,true,true,false,true,true,false,false,false,false,false] [(40,.slice none 0 0),(42,sT o.text),(44,.iface 297 (i6 o.vn)),(47,.agg #[aL A64 o.attrs c65])] (fun w_=>[la 9 (⟨w9.heap.size,1,none⟩) (sT o.text) w_,la 251 (⟨w9.heap.size,2,none⟩) (.iface 297 (i6 o.vn)) w_,la 126 (⟨w9.heap.size,0,none⟩) (.agg #[aL A64 o.attrs c65]) w_]) (fun w_ hC_=>⟨loads1 rfl (Blk.cell (Blk.below k120 (bt b123 hC_)) 1 _ rfl),loads1 rfl (Blk.cell (Blk.below k120 (bt b123 hC_)) 2 _ rfl),loadsB rfl rfl (Blk.below k120 (bt b123 hC_)) 0 ⟨by kernel_rfl,by kernel_rfl⟩,trivial⟩) ?_
   refine XB_mid (fuel':=5) 5 (tf 8 5) _ rfl (by kernel_rfl) (by kernel_rfl) rfl ?_
   refine XL_inv 258 #[i6 o.vn] rfl rfl (by kernel_rfl) (by kernel_rfl) (numberPlain_any o.vk o.vn o.vt _ (refuse_val c11 k13) c112) ?_
   rintro e w125 ⟨rfl,b126⟩; refine⟨_,rfl,?_⟩
   refine nl ?_
   refine⟨b126,?_⟩
   refine XB_mid (fuel':=4) 8 (tf 9 4) _ rfl (by kernel_rfl) (by kernel_rfl) rfl ?_
   have B127:Below w9.heap.size w9 w125:=(bt (bt (bg b114 g119 (Nat.le_refl _)) b123) b126)
   refine xc 219 ent219 [.agg #[aL A64 o.attrs c65]] (attributes_any _ _ o.attrs _ (Kd.C_below C68 B127) (by omega)) ?_
   rintro e w130 ⟨A128,c129,rfl,l132,r133,b131⟩; refine⟨_,rfl,?_⟩
   refine nl ?_
   refine⟨(bt b126 b131),?_⟩
   refine XB_runC (fuel':=3) (bt b126 b131) [9] [] [.agg #[.int .i32 (-1),sT o.text,i6 o.vk,i6 o.vn,sT o.vt,aL A128 o.attrs c129]] (tf 10 3) [(49,.agg #[.int .i32 (-1),sT o.text,i6 o.vk,i6 o.vn,sT o.vt,aL A128 o.attrs c129])] [42,44,45,47,48] (fun w_=>[]) (fun w_ hC_=>trivial) ?_
   refine XB_mid (fuel':=2) 10 (tf 11 2) _ rfl (by kernel_rfl) (by kernel_rfl) rfl ?_
   refine xw 1 [] [(50,.slice (some ⟨w130.heap.size,0,none⟩) 1 1)] [49] (w130.alloc (.cells #[.int .i32 (-1),sT o.text,i6 o.vk,i6 o.vn,sT o.vt,aL A128 o.attrs c129] 51)) [] trivial ?_
   obtain⟨w134,w138,b135,k136,z137⟩:=new_world w130 #[.int .i32 (-1),sT o.text,i6 o.vk,i6 o.vn,sT o.vt,aL A128 o.attrs c129] 51
   rw[w138]
   refine nl ?_
   refine⟨(bt (bt b126 b131) b135),?_⟩
   refine XB_mid (fuel':=1) 11 (tf 12 1) _ rfl (by kernel_rfl) (by kernel_rfl) rfl ?_
   obtain⟨okp139,M140,hok141⟩:=Kd.M_rowApart r133 (b126).size (Kd.R_nil kCell 51 _ wd122.heap.size (OkFrom wd122.heap.size)) (by decide)
   rw[←w138]
   refine XL_append kCell rfl rfl rfl wd122.heap.size 51 (.agg #[.int .i32 0,s0,i6 0,i6 0,s0,.slice none 0 0]) 80 Tryz.underlying39 info51 rfl (by decide) (by omega) ([]) (⟨(-1),o.text,o.vk,o.vn,o.vt,o.attrs⟩:CellA) [.int .i32 (-1),sT o.text,i6 o.vk,i6 o.vn,sT o.vt,aL A128 o.attrs c129] okp139 (by kernel_rfl) (kCell_M (x:=(⟨(-1),o.text,o.vk,o.vn,o.vt,o.attrs⟩:CellA)) M140) hok141 (Kd.R_nil kCell 51 _ wd122.heap.size (OkFrom wd122.heap.size)) ((bt b126 b131)).size (by decide) ?_
   intro A142 c143 w144 r145 c146 g147 l148 a149
   have e151:([]++[(⟨(-1),o.text,o.vk,o.vn,o.vt,o.attrs⟩:CellA)])=[(⟨-1,o.text,o.vk,o.vn,o.vt,o.attrs⟩:CellA)]:=rfl
   rw[e151]at r145 ⊢
   refine nl ?_
   have B152:Below wd122.heap.size wd122 w144:=(bgo (bt b126 b131) g147 l148 (Nat.le_refl _))
   refine⟨B152,?_⟩
   refine XB_run (fuel':=0) B152 [12] [] [aL A142 [(⟨-1,o.text,o.vk,o.vn,o.vt,o.attrs⟩:CellA)] c143] (tf 13 0) [(6,aL A142 [(⟨-1,o.text,o.vk,o.vn,o.vt,o.attrs⟩:CellA)] c143)] (fun w_=>[]) (fun w_ hC_=>trivial) ?_
   refine XB_done (by kernel_rfl) ?_
   refine sg (xe0 3 [(2,aL A142 [(⟨-1,o.text,o.vk,o.vn,o.vt,o.attrs⟩:CellA)] c143),(3,.nilIface)] ?_)
   refine nl (X_ret (rj [.slice A142 ([(⟨-1,o.text,o.vk,o.vn,o.vt,o.attrs⟩:CellA)].length) c143,.nilIface] hR_ ?_))
   have B153:Below w.heap.size w wd122:=(bt (bg (bt (bt b2 b10) b114) g119 ((bt b2 b10)).size) b123)
   have B154:Below w.heap.size w w144:=(bgo (bt (bt B153 b126) b131) g147 l148 (B153).size)
   rw[show cellsO o=[(⟨-1,o.text,o.vk,o.vn,o.vt,o.attrs⟩:CellA)]from by rw[show ([(⟨-1,o.text,o.vk,o.vn,o.vt,o.attrs⟩:CellA)]:List CellA)=cellsP o from(cellsP_2 k13).symm]; exact if_pos c11,c11]
   exact⟨_,_,rfl,Kd.R_low r145 (B153).size,B154⟩
  by_cases c155:o.vk=3
  ·rw[valV3 (v:=(o.vk,o.vn,o.vt)) c69 c112 c155]
   refine xr0 3 [(38,bT),(39,.agg #[.slice A64 o.attrs.length c65,sT o.text,.iface 298 (sT o.vt)])] [19,21,22] ?_
   refine nl (ct (sg (xw 1 [] [(10,pw w9.heap.size 0)] [38] (w9.alloc (.cells #[.slice none 0 0,s0,.nilIface] 253)) [] trivial ?_)))
   obtain⟨w156,w160,b157,k158,z159⟩:=new_world w9 #[.slice none 0 0,s0,.nilIface] 253
   rw[w160]
   refine xst (.agg #[.slice A64 o.attrs.length c65,sT o.text,.iface 298 (sT o.vt)]) k158 0 #[.slice A64 o.attrs.length c65,sT o.text,.iface 298 (sT o.vt)] (fun w161 g162 k163 z164=>?_)
   refine nl (X_grow [] 13 (tf 0 13) (by kernel_rfl) (by kernel_rfl) (by kernel_rfl) (fun wd165 b166 h167=>?_))
   refine XB_run (fuel':=6) (Below.refl _ _) [0,1,2,3,4,6,7] [(42,.load (sT o.text)),(44,.load (.iface 298 (sT o.vt))),(47,.load (.agg #[aL A64 o.attrs c65]))] [.slice none 0 0,pw w9.heap.size 1,sT o.text,pw w9.heap.size 2,.iface 298 (sT o.vt),pw w9.heap.size 0,.agg #[aL A64 o.attrs c65]] #[true,true,true,true,true,false,true,true,false,false,false,false,false] [(40,.slice none 0 0),(42,sT o.text),(44,.iface 298 (sT o.vt)),(47,.agg #[aL A64 o.attrs c65])] (fun w_=>[la 9 (⟨w9.heap.size,1,none⟩) (sT o.text) w_,la 251 (⟨w9.heap.size,2,none⟩) (.iface 298 (sT o.vt)) w_,la 126 (⟨w9.heap.size,0,none⟩) (.agg #[aL A64 o.attrs c65]) w_]) (fun w_ hC_=>⟨loads1 rfl (Blk.cell (Blk.below k163 (bt b166 hC_)) 1 _ rfl),loads1 rfl (Blk.cell (Blk.below k163 (bt b166 hC_)) 2 _ rfl),loadsB rfl rfl (Blk.below k163 (bt b166 hC_)) 0 ⟨by kernel_rfl,by kernel_rfl⟩,trivial⟩) ?_
   refine XB_mid (fuel':=5) 5 (tf 8 5) _ rfl (by kernel_rfl) (by kernel_rfl) rfl ?_
   refine XL_inv 260 #[sT o.vt] rfl rfl (by kernel_rfl) (by kernel_rfl) (textPlain_any o.vk o.vn o.vt _ (refuse_val c11 k13) c155) ?_
   rintro e w168 ⟨rfl,b169⟩; refine⟨_,rfl,?_⟩
   refine nl ?_
   refine⟨b169,?_⟩
   refine XB_mid (fuel':=4) 8 (tf 9 4) _ rfl (by kernel_rfl) (by kernel_rfl) rfl ?_
   have B170:Below w9.heap.size w9 w168:=(bt (bt (bg b157 g162 (Nat.le_refl _)) b166) b169)
   refine xc 219 ent219 [.agg #[aL A64 o.attrs c65]] (attributes_any _ _ o.attrs _ (Kd.C_below C68 B170) (by omega)) ?_
   rintro e w173 ⟨A171,c172,rfl,l175,r176,b174⟩; refine⟨_,rfl,?_⟩
   refine nl ?_
   refine⟨(bt b169 b174),?_⟩
   refine XB_runC (fuel':=3) (bt b169 b174) [9] [] [.agg #[.int .i32 (-1),sT o.text,i6 o.vk,i6 o.vn,sT o.vt,aL A171 o.attrs c172]] (tf 10 3) [(49,.agg #[.int .i32 (-1),sT o.text,i6 o.vk,i6 o.vn,sT o.vt,aL A171 o.attrs c172])] [42,44,45,47,48] (fun w_=>[]) (fun w_ hC_=>trivial) ?_
   refine XB_mid (fuel':=2) 10 (tf 11 2) _ rfl (by kernel_rfl) (by kernel_rfl) rfl ?_
   refine xw 1 [] [(50,.slice (some ⟨w173.heap.size,0,none⟩) 1 1)] [49] (w173.alloc (.cells #[.int .i32 (-1),sT o.text,i6 o.vk,i6 o.vn,sT o.vt,aL A171 o.attrs c172] 51)) [] trivial ?_
   obtain⟨w177,w181,b178,k179,z180⟩:=new_world w173 #[.int .i32 (-1),sT o.text,i6 o.vk,i6 o.vn,sT o.vt,aL A171 o.attrs c172] 51
   rw[w181]
   refine nl ?_
   refine⟨(bt (bt b169 b174) b178),?_⟩
   refine XB_mid (fuel':=1) 11 (tf 12 1) _ rfl (by kernel_rfl) (by kernel_rfl) rfl ?_
   obtain⟨okp182,M183,hok184⟩:=Kd.M_rowApart r176 (b169).size (Kd.R_nil kCell 51 _ wd165.heap.size (OkFrom wd165.heap.size)) (by decide)
   rw[←w181]
   refine XL_append kCell rfl rfl rfl wd165.heap.size 51 (.agg #[.int .i32 0,s0,i6 0,i6 0,s0,.slice none 0 0]) 80 Tryz.underlying39 info51 rfl (by decide) (by omega) ([]) (⟨(-1),o.text,o.vk,o.vn,o.vt,o.attrs⟩:CellA) [.int .i32 (-1),sT o.text,i6 o.vk,i6 o.vn,sT o.vt,aL A171 o.attrs c172] okp182 (by kernel_rfl) (kCell_M (x:=(⟨(-1),o.text,o.vk,o.vn,o.vt,o.attrs⟩:CellA)) M183) hok184 (Kd.R_nil kCell 51 _ wd165.heap.size (OkFrom wd165.heap.size)) ((bt b169 b174)).size (by decide) ?_
   intro A185 c186 w187 r188 c189 g190 l191 a192
   have e194:([]++[(⟨(-1),o.text,o.vk,o.vn,o.vt,o.attrs⟩:CellA)])=[(⟨-1,o.text,o.vk,o.vn,o.vt,o.attrs⟩:CellA)]:=rfl
   rw[e194]at r188 ⊢
   refine nl ?_
   have B195:Below wd165.heap.size wd165 w187:=(bgo (bt b169 b174) g190 l191 (Nat.le_refl _))
   refine⟨B195,?_⟩
   refine XB_run (fuel':=0) B195 [12] [] [aL A185 [(⟨-1,o.text,o.vk,o.vn,o.vt,o.attrs⟩:CellA)] c186] (tf 13 0) [(6,aL A185 [(⟨-1,o.text,o.vk,o.vn,o.vt,o.attrs⟩:CellA)] c186)] (fun w_=>[]) (fun w_ hC_=>trivial) ?_
   refine XB_done (by kernel_rfl) ?_
   refine sg (xe0 3 [(2,aL A185 [(⟨-1,o.text,o.vk,o.vn,o.vt,o.attrs⟩:CellA)] c186),(3,.nilIface)] ?_)
   refine nl (X_ret (rj [.slice A185 ([(⟨-1,o.text,o.vk,o.vn,o.vt,o.attrs⟩:CellA)].length) c186,.nilIface] hR_ ?_))
   have B196:Below w.heap.size w wd165:=(bt (bg (bt (bt b2 b10) b157) g162 ((bt b2 b10)).size) b166)
   have B197:Below w.heap.size w w187:=(bgo (bt (bt B196 b169) b174) g190 l191 (B196).size)
   rw[show cellsO o=[(⟨-1,o.text,o.vk,o.vn,o.vt,o.attrs⟩:CellA)]from by rw[show ([(⟨-1,o.text,o.vk,o.vn,o.vt,o.attrs⟩:CellA)]:List CellA)=cellsP o from(cellsP_2 k13).symm]; exact if_pos c11,c11]
   exact⟨_,_,rfl,Kd.R_low r188 (B196).size,B197⟩
  rw[valV0 (v:=(o.vk,o.vn,o.vt)) c69 c112 c155]
  refine xr0 3 [(38,bT),(39,.agg #[.slice A64 o.attrs.length c65,sT o.text,.iface 300 (.agg #[])])] [19,21,22] ?_
  refine nl (ct (sg (xw 1 [] [(10,pw w9.heap.size 0)] [38] (w9.alloc (.cells #[.slice none 0 0,s0,.nilIface] 253)) [] trivial ?_)))
  obtain⟨w198,w202,b199,k200,z201⟩:=new_world w9 #[.slice none 0 0,s0,.nilIface] 253
  rw[w202]
  refine xst (.agg #[.slice A64 o.attrs.length c65,sT o.text,.iface 300 (.agg #[])]) k200 0 #[.slice A64 o.attrs.length c65,sT o.text,.iface 300 (.agg #[])] (fun w203 g204 k205 z206=>?_)
  refine nl (X_grow [] 13 (tf 0 13) (by kernel_rfl) (by kernel_rfl) (by kernel_rfl) (fun wd207 b208 h209=>?_))
  refine XB_run (fuel':=6) (Below.refl _ _) [0,1,2,3,4,6,7] [(42,.load (sT o.text)),(44,.load (.iface 300 (.agg #[]))),(47,.load (.agg #[aL A64 o.attrs c65]))] [.slice none 0 0,pw w9.heap.size 1,sT o.text,pw w9.heap.size 2,.iface 300 (.agg #[]),pw w9.heap.size 0,.agg #[aL A64 o.attrs c65]] #[true,true,true,true,true,false,true,true,false,false,false,false,false] [(40,.slice none 0 0),(42,sT o.text),(44,.iface 300 (.agg #[])),(47,.agg #[aL A64 o.attrs c65])] (fun w_=>[la 9 (⟨w9.heap.size,1,none⟩) (sT o.text) w_,la 251 (⟨w9.heap.size,2,none⟩) (.iface 300 (.agg #[])) w_,la 126 (⟨w9.heap.size,0,none⟩) (.agg #[aL A64 o.attrs c65]) w_]) (fun w_ hC_=>⟨loads1 rfl (Blk.cell (Blk.below k205 (bt b208 hC_)) 1 _ rfl),loads1 rfl (Blk.cell (Blk.below k205 (bt b208 hC_)) 2 _ rfl),loadsB rfl rfl (Blk.below k205 (bt b208 hC_)) 0 ⟨by kernel_rfl,by kernel_rfl⟩,trivial⟩) ?_
  refine XB_mid (fuel':=5) 5 (tf 8 5) _ rfl (by kernel_rfl) (by kernel_rfl) rfl ?_
  refine XL_inv 262 #[.agg #[]] rfl rfl (by kernel_rfl) (by kernel_rfl) (nullPlain_any o.vk o.vn o.vt _ (refuse_val c11 k13) (by have h_:=plainOk_kind (refuse_val c11 k13); omega)) ?_
  rintro e w210 ⟨rfl,b211⟩; refine⟨_,rfl,?_⟩
  refine nl ?_
  refine⟨b211,?_⟩
  refine XB_mid (fuel':=4) 8 (tf 9 4) _ rfl (by kernel_rfl) (by kernel_rfl) rfl ?_
  have B212:Below w9.heap.size w9 w210:=(bt (bt (bg b199 g204 (Nat.le_refl _)) b208) b211)
  refine xc 219 ent219 [.agg #[aL A64 o.attrs c65]] (attributes_any _ _ o.attrs _ (Kd.C_below C68 B212) (by omega)) ?_
  rintro e w215 ⟨A213,c214,rfl,l217,r218,b216⟩; refine⟨_,rfl,?_⟩
  refine nl ?_
  refine⟨(bt b211 b216),?_⟩
  refine XB_runC (fuel':=3) (bt b211 b216) [9] [] [.agg #[.int .i32 (-1),sT o.text,i6 o.vk,i6 o.vn,sT o.vt,aL A213 o.attrs c214]] (tf 10 3) [(49,.agg #[.int .i32 (-1),sT o.text,i6 o.vk,i6 o.vn,sT o.vt,aL A213 o.attrs c214])] [42,44,45,47,48] (fun w_=>[]) (fun w_ hC_=>trivial) ?_
  refine XB_mid (fuel':=2) 10 (tf 11 2) _ rfl (by kernel_rfl) (by kernel_rfl) rfl ?_
  refine xw 1 [] [(50,.slice (some ⟨w215.heap.size,0,none⟩) 1 1)] [49] (w215.alloc (.cells #[.int .i32 (-1),sT o.text,i6 o.vk,i6 o.vn,sT o.vt,aL A213 o.attrs c214] 51)) [] trivial ?_
  obtain⟨w219,w223,b220,k221,z222⟩:=new_world w215 #[.int .i32 (-1),sT o.text,i6 o.vk,i6 o.vn,sT o.vt,aL A213 o.attrs c214] 51
  rw[w223]
  refine nl ?_
  refine⟨(bt (bt b211 b216) b220),?_⟩
  refine XB_mid (fuel':=1) 11 (tf 12 1) _ rfl (by kernel_rfl) (by kernel_rfl) rfl ?_
  obtain⟨okp224,M225,hok226⟩:=Kd.M_rowApart r218 (b211).size (Kd.R_nil kCell 51 _ wd207.heap.size (OkFrom wd207.heap.size)) (by decide)
  rw[←w223]
  refine XL_append kCell rfl rfl rfl wd207.heap.size 51 (.agg #[.int .i32 0,s0,i6 0,i6 0,s0,.slice none 0 0]) 80 Tryz.underlying39 info51 rfl (by decide) (by omega) ([]) (⟨(-1),o.text,o.vk,o.vn,o.vt,o.attrs⟩:CellA) [.int .i32 (-1),sT o.text,i6 o.vk,i6 o.vn,sT o.vt,aL A213 o.attrs c214] okp224 (by kernel_rfl) (kCell_M (x:=(⟨(-1),o.text,o.vk,o.vn,o.vt,o.attrs⟩:CellA)) M225) hok226 (Kd.R_nil kCell 51 _ wd207.heap.size (OkFrom wd207.heap.size)) ((bt b211 b216)).size (by decide) ?_
  intro A227 c228 w229 r230 c231 g232 l233 a234
  have e236:([]++[(⟨(-1),o.text,o.vk,o.vn,o.vt,o.attrs⟩:CellA)])=[(⟨-1,o.text,o.vk,o.vn,o.vt,o.attrs⟩:CellA)]:=rfl
  rw[e236]at r230 ⊢
  refine nl ?_
  have B237:Below wd207.heap.size wd207 w229:=(bgo (bt b211 b216) g232 l233 (Nat.le_refl _))
  refine⟨B237,?_⟩
  refine XB_run (fuel':=0) B237 [12] [] [aL A227 [(⟨-1,o.text,o.vk,o.vn,o.vt,o.attrs⟩:CellA)] c228] (tf 13 0) [(6,aL A227 [(⟨-1,o.text,o.vk,o.vn,o.vt,o.attrs⟩:CellA)] c228)] (fun w_=>[]) (fun w_ hC_=>trivial) ?_
  refine XB_done (by kernel_rfl) ?_
  refine sg (xe0 3 [(2,aL A227 [(⟨-1,o.text,o.vk,o.vn,o.vt,o.attrs⟩:CellA)] c228),(3,.nilIface)] ?_)
  refine nl (X_ret (rj [.slice A227 ([(⟨-1,o.text,o.vk,o.vn,o.vt,o.attrs⟩:CellA)].length) c228,.nilIface] hR_ ?_))
  have B238:Below w.heap.size w wd207:=(bt (bg (bt (bt b2 b10) b199) g204 ((bt b2 b10)).size) b208)
  have B239:Below w.heap.size w w229:=(bgo (bt (bt B238 b211) b216) g232 l233 (B238).size)
  rw[show cellsO o=[(⟨-1,o.text,o.vk,o.vn,o.vt,o.attrs⟩:CellA)]from by rw[show ([(⟨-1,o.text,o.vk,o.vn,o.vt,o.attrs⟩:CellA)]:List CellA)=cellsP o from(cellsP_2 k13).symm]; exact if_pos c11,c11]
  exact⟨_,_,rfl,Kd.R_low r230 (B238).size,B239⟩
 rw[errV_pos es (refuseP o) (Nat.pos_of_ne_zero c11)]
 refine xr0 1 [(5,.iface 301 (.pointer (some (errAt es (refuseP o))))),(17,bT)] [16] ?_
 refine nl (ct (sg (xe0 3 [(2,.slice none 0 0),(3,.iface 301 (.pointer (some (errAt es (refuseP o)))))] ?_)))
 refine nl (X_ret (rj [.slice none 0 0,.iface 301 (.pointer (some (errAt es (refuseP o))))] hR_ ?_))
 rw[show cellsO o=[]from if_neg c11,errV_pos es _ (Nat.pos_of_ne_zero c11)]
 exact⟨none,0,rfl,Kd.R_nil _ _ _ _ _,(bt b2 b10)⟩
end Go.Proofs.YtgphmfnkeolbcaaGreatDoor
