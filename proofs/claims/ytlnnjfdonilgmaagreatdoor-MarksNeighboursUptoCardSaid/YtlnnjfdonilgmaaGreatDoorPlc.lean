import Derived.Test.YtlnnjfdonilgmaaGreatDoorT4
import Derived.Test.YtlnnjfdonilgmaaGreatDoorAn3
/- What build.Of answers, and deltas. Conditions: sizes, the tables of utf8, the errors' variables. -/
set_option linter.unusedVariables false
set_option linter.unusedSimpArgs false
set_option maxRecDepth 100000
namespace Go.Proofs.YtlnnjfdonilgmaaGreatDoor
open Go Go.RowKit Go.Proofs.YtlnnjfdonilgmaaGreatDoorW.PrintWords RX
theorem ent47 :Ent Tryz.prog 47:=ent_of Tryz.func47 (by kernel_rfl) rfl
theorem ent32 :Ent Tryz.prog 32:=ent_of Tryz.func32 (by kernel_rfl) rfl
theorem ent101 :Ent Tryz.prog 101:=ent_of Tryz.func101 (by kernel_rfl) rfl
theorem ent80 :Ent Tryz.prog 80:=ent_of Tryz.func80 (by kernel_rfl) rfl
theorem fin_plain {ps:List OpA}(h:ps.length≠0)(hp:plainR (B.lst ps)):(List.map pOf ps).take ((List.map pOf ps).length-1)=List.map pOf (B.fin ps)∧(List.map pOf ps).length-1=(List.map pOf (B.fin ps)).length:=by
 unfold B.fin
 rw[if_pos ⟨h,hp⟩,List.length_map,List.map_take]
 exact⟨rfl,by rw[List.length_take,List.length_map]; omega⟩
theorem fin_not {ps:List OpA}(hp:ps.length=0∨¬plainR (B.lst ps)):B.fin ps=ps:=if_neg fun h=>hp.elim h.1 fun h2=>h2 h.2
set_option maxHeartbeats 2000000 in
theorem bdeltaO_any {ok:Nat→Prop}(wB:World)(g:Nat)(b r:Int)(s:B.St)(A:Option Addr)(c:Nat)(w:World)(hB:wB.heap.size≤w.heap.size)(hk:RX.Blk w g 119 #[i6 b,i6 r,.slice A (List.map pOf s.1).length c,i6 s.2])(hR:kPiece.R 123 w wB.heap.size ok (.slice A (List.map pOf s.1).length c) (List.map pOf s.1))(hok:∀ k,w.heap.size≤k→ok k)(hs2:0≤s.2∧s.2≤1099511627776)(hbd:badE s.1=0)(hl:s.1.length≤100000000):
  Calls Tryz.prog 47 #[pw g 0] w fun e w'=>∃ d A' c',e=.returned (pw d 0)∧w.heap.size≤d∧RX.Blk w' d 84 #[aL A' (List.map pOf (B.fin (B.dels s.1 s.2))) c']∧kPiece.R 123 w' wB.heap.size ok (aL A' (List.map pOf (B.fin (B.dels s.1 s.2))) c') (List.map pOf (B.fin (B.dels s.1 s.2)))∧(∀ k,A'.map (·.block)=some k→w.heap.size≤k)∧Below w.heap.size w w':=by
 have hls:=dels_len s.1 s.2
 have hlm:(List.map pOf s.1).length=s.1.length:=List.length_map ..
 have hb':=dels_ok2 hbd hs2.1 hs2.2
 refine en Tryz.func47 rfl 45 [(0,pw g 0)] (fun R_ hR_=>?_)
 refine sg (xe0 1 [(0,pw g 0)] ?_)
 refine nl (sq (X_grow [9] 11 (tf 0 11) (by kernel_rfl) (by kernel_rfl) (by kernel_rfl) (fun wd1 b2 hh3=>?_)))
 refine XB_run (fuel':=3) (Below.refl _ _) [0,1,2,3,5,6,7,8] [(10,.load (aL A (List.map pOf s.1) c)),(15,.load (i6 s.2))] [pw g 0,pw g 0,pw g 2,.slice A ((List.map pOf s.1).length) c,pw g 0,pw g 0,pw g 3,i6 s.2] #[true,true,true,true,false,true,true,true,true,false,false] [(10,aL A (List.map pOf s.1) c),(15,i6 s.2)] (fun w_=>[la 82 (⟨g,2,none⟩) (aL A (List.map pOf s.1) c) w_,la 3 (⟨g,3,none⟩) (i6 s.2) w_]) (fun w_ hC_=>⟨loads1 rfl (Blk.cell (Blk.below hk (bt b2 hC_)) 2 _ rfl),loads1 rfl (Blk.cell (Blk.below hk (bt b2 hC_)) 3 _ rfl),trivial⟩) ?_
 refine XB_mid (fuel':=2) 4 (tf 9 2) _ rfl (by kernel_rfl) (by kernel_rfl) rfl ?_
 refine xc 64 ent64 [aL A (List.map pOf s.1) c] (pclone_any _ _ s.1 wB _ (Nat.le_trans hB b2.size) (Kd.R_below hR b2) (fun k_ h_=>hok k_ (Nat.le_trans b2.size h_)) (by omega)) ?_
 rintro e w_6 ⟨A4,c_5,rfl,r7,hsp8,b9⟩; refine⟨_,rfl,?_⟩
 refine nl ?_
 refine⟨b9,?_⟩
 refine XB_act (fuel':=1) 9 (tf 10 1) _ rfl (by kernel_rfl) rfl (by kernel_rfl) rfl ?_
 refine xc 62 ent62 [.slice A4 ((List.map pOf s.1).length) c_5,i6 s.2] (bdeleted_any _ _ s.1 _ wB _ (Nat.le_trans hB (Nat.le_trans b2.size b9.size)) r7 (fun k_ h_=>hok k_ (Nat.le_trans (Nat.le_trans b2.size b9.size) h_)) (by omega)) ?_
 rintro e w12 ⟨A10,c11,rfl,r13,g14,hat15⟩; refine⟨_,rfl,?_⟩
 have hsp16:∀ k_,A10.map (·.block)=some k_→wd1.heap.size≤k_:=fun k_ hk_=>by rcases hat15 with h_|⟨b_,h_,h2_⟩; (· exact hsp8 k_ (by rw[←h_]; exact hk_)); (· rw[h_]at hk_; injection hk_ with hk_; subst hk_; exact Nat.le_trans b9.size h2_)
 obtain⟨ps,hps⟩:∃ ps,B.dels s.1 s.2=ps:=⟨_,rfl⟩
 rw[hps]at hls hb' r13 ⊢
 have hlm2:(List.map pOf ps).length=ps.length:=List.length_map ..
 refine nl (XB_pure (fuel':=0) [10] [] [aL A10 (List.map pOf ps) c11] (tf 11 0) [(3,aL A10 (List.map pOf ps) c11)] (fun w_=>[]) (fun _ _ _ _ h=>h) (fun w_=>by kernel_rfl) rfl (fun w_=>trivial) ?_)
 refine XB_done (by kernel_rfl) ?_
 refine sg (xr1 4 [(19,.eq (i6 (((List.map pOf ps).length:Int)-1)))] [(4,i6 (((List.map pOf ps).length:Int)-1))] [] (w6 (((List.map pOf ps).length:Int)-1)) ?_)
 refine nl (sq (sg (xr0 1 [(20,i6 (((List.map pOf ps).length:Int)-1))] [] ?_)))
 by_cases c17:((List.map pOf ps).length:Int)-1<0
 ·refine xr1 1 [(21,.eq bT)] [(21,bT)] [20] (dT c17) ?_
  refine nl (ct (sg (xc 12 ent12 [] (bempty_any _) ?_)))
  rintro e w19 ⟨g18,rfl,g20,k21,b22⟩; refine⟨_,rfl,?_⟩
  refine xe0 1 [(2,pw g18 0)] ?_
  refine nl (X_ret (rj [pw g18 0] hR_ ?_))
  have B23:Below w.heap.size w w19:=(bt (bgo (bt b2 b9) g14 hsp8 (b2).size) b22)
  rw[hps]
  obtain rfl:ps=[]:=List.eq_nil_of_length_eq_zero (by omega)
  exact⟨_,none,0,rfl,Nat.le_trans (Nat.le_trans (Nat.le_trans b2.size b9.size) g14.size) g20,k21,Kd.R_nil _ _ _ _ _,fun _ h_=>(by cases h_),B23⟩
 have hne:ps.length≠0:=by omega
 refine xr1 1 [(21,.eq bF)] [(21,bF)] [20] (dF c17) ?_
 refine nl (cf (sk (sq (sg (xr0 2 [(24,aL A10 (List.map pOf ps) c11),(25,i6 (((List.map pOf ps).length:Int)-1))] [21] ?_)))))
 obtain⟨ad24,cs27,a25,M28,hc26⟩:=Kd.R_at piece0 r13 (i:=((List.map pOf ps).length:Int)-1) (by omega) (by omega)
 obtain⟨v29,rfl⟩:=kPiece_one M28
 replace hc26:CellsAt w12 (ad24.add ((((List.map pOf ps).length:Int)-1).toNat*1)) [v29]:=hc26
 refine xr 1 [(26,.idx ad24)] [(26,.pointer (some (ad24.add ((((List.map pOf ps).length:Int)-1).toNat*1))))] [24,25] [A10=some ad24,(0:Int)≤((List.map pOf ps).length:Int)-1,((List.map pOf ps).length:Int)-1<((List.map pOf ps).length:Int)] ⟨a25,(by omega),(by omega),trivial⟩ ?_
 rw[last_get hne]at M28
 have hla:=lst_ok hb' hne
 rcases kind_of_ok hla with hlk|hlk|hlk|hlk
 ·rw[pOf_ins hlk]at M28
  obtain⟨A31,c32,e33,l34,R35⟩:=kPiece_insM M28
  obtain rfl:=(List.cons.inj e33).1
  refine xwe 6 [(27,.load (.iface 153 (.agg #[.slice A31 ((B.lst ps).attrs.length) c32,sT ((B.lst ps).text),i6 ((U.sc (B.lst ps).text).length:Int)])))] [(3,aL A10 (List.map pOf ps) c11),(4,i6 (((List.map pOf ps).length:Int)-1)),(5,pw w12.heap.size 0),(29,.agg #[.slice none 0 0,i6 0]),(30,bF)] (w12.alloc (.cells #[.slice none 0 0,i6 0] 131)) [la 123 (ad24.add ((((List.map pOf ps).length:Int)-1).toNat*1)) (.iface 153 (.agg #[.slice A31 ((B.lst ps).attrs.length) c32,sT ((B.lst ps).text),i6 ((U.sc (B.lst ps).text).length:Int)])) w12] ⟨loads1 rfl (elem_cell hc26 0 _ rfl),trivial⟩ ?_
  obtain⟨w36,w40,b37,k38,z39⟩:=new_world w12 #[.slice none 0 0,i6 0] 131
  rw[w40]
  refine xst (.agg #[.slice none 0 0,i6 0]) k38 0 #[.slice none 0 0,i6 0] (fun w41 g42 k43 z44=>?_)
  have r45:=Kd.R_off (Kd.R_below r13 b37) k38 (by decide) g42
  refine xr0 1 [(6,bF)] [29,30] ?_
  refine nl (sg (xr0 8 [(38,bF)] [5,6] ?_))
  refine nl (cf (sk (sg (xwe 3 [] [(44,pw w41.heap.size 0)] (w41.alloc (.cells #[aL A10 (List.map pOf ps) c11] 84)) [] trivial ?_))))
  obtain⟨w46,w50,b47,k48,z49⟩:=new_world w41 #[aL A10 (List.map pOf ps) c11] 84
  rw[w50]
  refine xe0 1 [(2,pw w41.heap.size 0)] ?_
  refine nl (X_ret (rj [pw w41.heap.size 0] hR_ ?_))
  have B51:Below w.heap.size w w12:=(bgo (bt b2 b9) g14 hsp8 (b2).size)
  have B52:Below w.heap.size w w41:=(bg (bt (bgo (bt b2 b9) g14 hsp8 (b2).size) b37) g42 (B51).size)
  rw[hps,fin_not (.inr fun h_=>by have h1_:=h_.1; have h2_:=h_.2; omega)]
  exact⟨_,_,_,rfl,(B52).size,k48,(Kd.R_below r45 b47),(fun k_ hk_=>Nat.le_trans b2.size (hsp16 k_ hk_)),(bt B52 b47)⟩
 ·rw[pOf_emb hlk]at M28
  obtain⟨A53,c54,e55,l56,R57⟩:=kPiece_embM M28
  obtain rfl:=(List.cons.inj e55).1
  have hval:(B.lst ps).val=((B.lst ps).vk,(B.lst ps).vn,(B.lst ps).vt):=rfl
  rw[hval]at hc26
  refine xwe 6 [(27,.load (.iface 157 (.agg #[.slice A53 ((B.lst ps).attrs.length) c54,sT ((B.lst ps).text),valV ((B.lst ps).vk,(B.lst ps).vn,(B.lst ps).vt)])))] [(3,aL A10 (List.map pOf ps) c11),(4,i6 (((List.map pOf ps).length:Int)-1)),(5,pw w12.heap.size 0),(29,.agg #[.slice none 0 0,i6 0]),(30,bF)] (w12.alloc (.cells #[.slice none 0 0,i6 0] 131)) [la 123 (ad24.add ((((List.map pOf ps).length:Int)-1).toNat*1)) (.iface 157 (.agg #[.slice A53 ((B.lst ps).attrs.length) c54,sT ((B.lst ps).text),valV ((B.lst ps).vk,(B.lst ps).vn,(B.lst ps).vt)])) w12] ⟨loads1 rfl (elem_cell hc26 0 _ rfl),trivial⟩ ?_
  obtain⟨w58,w62,b59,k60,z61⟩:=new_world w12 #[.slice none 0 0,i6 0] 131
  rw[w62]
  refine xst (.agg #[.slice none 0 0,i6 0]) k60 0 #[.slice none 0 0,i6 0] (fun w63 g64 k65 z66=>?_)
  have r67:=Kd.R_off (Kd.R_below r13 b59) k60 (by decide) g64
  refine xr0 1 [(6,bF)] [29,30] ?_
  refine nl (sg (xr0 8 [(38,bF)] [5,6] ?_))
  refine nl (cf (sk (sg (xwe 3 [] [(44,pw w63.heap.size 0)] (w63.alloc (.cells #[aL A10 (List.map pOf ps) c11] 84)) [] trivial ?_))))
  obtain⟨w68,w72,b69,k70,z71⟩:=new_world w63 #[aL A10 (List.map pOf ps) c11] 84
  rw[w72]
  refine xe0 1 [(2,pw w63.heap.size 0)] ?_
  refine nl (X_ret (rj [pw w63.heap.size 0] hR_ ?_))
  have B73:Below w.heap.size w w12:=(bgo (bt b2 b9) g14 hsp8 (b2).size)
  have B74:Below w.heap.size w w63:=(bg (bt (bgo (bt b2 b9) g14 hsp8 (b2).size) b59) g64 (B73).size)
  rw[hps,fin_not (.inr fun h_=>by have h1_:=h_.1; have h2_:=h_.2; omega)]
  exact⟨_,_,_,rfl,(B74).size,k70,(Kd.R_below r67 b69),(fun k_ hk_=>Nat.le_trans b2.size (hsp16 k_ hk_)),(bt B74 b69)⟩
 ·rw[pOf_ret hlk]at M28
  obtain⟨A75,c76,e77,l78,R79⟩:=kPiece_retM M28
  obtain rfl:=(List.cons.inj e77).1
  refine xwe 6 [(27,.load (.iface 131 (.agg #[.slice A75 ((B.lst ps).attrs.length) c76,i6 ((B.lst ps).count)])))] [(3,aL A10 (List.map pOf ps) c11),(4,i6 (((List.map pOf ps).length:Int)-1)),(5,pw w12.heap.size 0),(29,.agg #[.slice A75 ((B.lst ps).attrs.length) c76,i6 ((B.lst ps).count)]),(30,bT)] (w12.alloc (.cells #[.slice none 0 0,i6 0] 131)) [la 123 (ad24.add ((((List.map pOf ps).length:Int)-1).toNat*1)) (.iface 131 (.agg #[.slice A75 ((B.lst ps).attrs.length) c76,i6 ((B.lst ps).count)])) w12] ⟨loads1 rfl (elem_cell hc26 0 _ rfl),trivial⟩ ?_
  obtain⟨w80,w84,b81,k82,z83⟩:=new_world w12 #[.slice none 0 0,i6 0] 131
  rw[w84]
  refine xst (.agg #[.slice A75 ((B.lst ps).attrs.length) c76,i6 ((B.lst ps).count)]) k82 0 #[.slice A75 ((B.lst ps).attrs.length) c76,i6 ((B.lst ps).count)] (fun w85 g86 k87 z88=>?_)
  have r89:=Kd.R_off (Kd.R_below r13 b81) k82 (by decide) g86
  refine xr0 1 [(6,bT)] [29,30] ?_
  refine nl (sg (xr1 6 [(35,.load (aL A75 (B.lst ps).attrs c76))] [(32,bT),(36,i6 ((B.lst ps).attrs.length:Int))] [5,6] (lc 68 k87 0) ?_))
  by_cases c90:((B.lst ps).attrs.length:Int)=0
  ·refine xr1 2 [(37,.eq bT)] [(38,bT)] [32,36] (bE c90) ?_
   refine nl (ct (X_region ?_))
   refine xe 4 [(41,.as (.slice A10 ((((List.map pOf ps).length:Int)-1).toNat) c11))] [(3,.slice A10 ((((List.map pOf ps).length:Int)-1).toNat) c11)] [RunsAs Tryz.prog [(39,aL A10 (List.map pOf ps) c11),(40,i6 (((List.map pOf ps).length:Int)-1))] (Go.Op.slice 82 (Go.Operand.tmp 39) none (some (Go.Operand.tmp 40)) none) 82 (.slice A10 ((((List.map pOf ps).length:Int)-1).toNat) c11) w85] ⟨runs_slice_h (h:=((List.map pOf ps).length:Int)-1) rfl rfl rfl rfl (by omega) (by have h:=(RX.Kd.R_len r13).2; (try simp only[List.length_append,List.length_cons,List.length_nil]at h); omega),trivial⟩ ?_
   refine nl (sg (xwe 3 [] [(44,pw w85.heap.size 0)] (w85.alloc (.cells #[.slice A10 ((((List.map pOf ps).length:Int)-1).toNat) c11] 84)) [] trivial ?_))
   obtain⟨w92,w96,b93,k94,z95⟩:=new_world w85 #[.slice A10 ((((List.map pOf ps).length:Int)-1).toNat) c11] 84
   rw[w96]
   refine xe0 1 [(2,pw w85.heap.size 0)] ?_
   refine nl (X_ret (rj [pw w85.heap.size 0] hR_ ?_))
   have B97:Below w.heap.size w w12:=(bgo (bt b2 b9) g14 hsp8 (b2).size)
   have B98:Below w.heap.size w w85:=(bg (bt (bgo (bt b2 b9) g14 hsp8 (b2).size) b81) g86 (B97).size)
   rw[hps]
   obtain⟨ht1,ht2⟩:=fin_plain hne ⟨hlk,by omega⟩
   have hR2:=RX.Kd.R_take (Kd.R_below r89 b93) (m:=(List.map pOf ps).length-1) (by omega)
   have hk2:=k94
   have hn2:(((List.map pOf ps).length:Int)-1).toNat=(List.map pOf ps).length-1:=by omega
   rw[hn2,ht2]at hk2
   rw[ht1,ht2]at hR2
   exact⟨_,_,_,rfl,(B98).size,hk2,hR2,(fun k_ hk_=>Nat.le_trans b2.size (hsp16 k_ hk_)),(bt B98 b93)⟩
  refine xr1 2 [(37,.eq bF)] [(38,bF)] [32,36] (bN c90) ?_
  refine nl (cf (sk (sg (xwe 3 [] [(44,pw w85.heap.size 0)] (w85.alloc (.cells #[aL A10 (List.map pOf ps) c11] 84)) [] trivial ?_))))
  obtain⟨w99,w103,b100,k101,z102⟩:=new_world w85 #[aL A10 (List.map pOf ps) c11] 84
  rw[w103]
  refine xe0 1 [(2,pw w85.heap.size 0)] ?_
  refine nl (X_ret (rj [pw w85.heap.size 0] hR_ ?_))
  have B104:Below w.heap.size w w12:=(bgo (bt b2 b9) g14 hsp8 (b2).size)
  have B105:Below w.heap.size w w85:=(bg (bt (bgo (bt b2 b9) g14 hsp8 (b2).size) b81) g86 (B104).size)
  rw[hps,fin_not (.inr fun h_=>by have h1_:=h_.1; have h2_:=h_.2; omega)]
  exact⟨_,_,_,rfl,(B105).size,k101,(Kd.R_below r89 b100),(fun k_ hk_=>Nat.le_trans b2.size (hsp16 k_ hk_)),(bt B105 b100)⟩
 rw[pOf_del hlk]at M28
 have e108:=kPiece_del (kPiece.K_of_M M28)
 obtain rfl:=(List.cons.inj e108).1
 refine xwe 6 [(27,.load (.iface 126 (.agg #[i6 ((B.lst ps).count)])))] [(3,aL A10 (List.map pOf ps) c11),(4,i6 (((List.map pOf ps).length:Int)-1)),(5,pw w12.heap.size 0),(29,.agg #[.slice none 0 0,i6 0]),(30,bF)] (w12.alloc (.cells #[.slice none 0 0,i6 0] 131)) [la 123 (ad24.add ((((List.map pOf ps).length:Int)-1).toNat*1)) (.iface 126 (.agg #[i6 ((B.lst ps).count)])) w12] ⟨loads1 rfl (elem_cell hc26 0 _ rfl),trivial⟩ ?_
 obtain⟨w111,w115,b112,k113,z114⟩:=new_world w12 #[.slice none 0 0,i6 0] 131
 rw[w115]
 refine xst (.agg #[.slice none 0 0,i6 0]) k113 0 #[.slice none 0 0,i6 0] (fun w116 g117 k118 z119=>?_)
 have r120:=Kd.R_off (Kd.R_below r13 b112) k113 (by decide) g117
 refine xr0 1 [(6,bF)] [29,30] ?_
 refine nl (sg (xr0 8 [(38,bF)] [5,6] ?_))
 refine nl (cf (sk (sg (xwe 3 [] [(44,pw w116.heap.size 0)] (w116.alloc (.cells #[aL A10 (List.map pOf ps) c11] 84)) [] trivial ?_))))
 obtain⟨w121,w125,b122,k123,z124⟩:=new_world w116 #[aL A10 (List.map pOf ps) c11] 84
 rw[w125]
 refine xe0 1 [(2,pw w116.heap.size 0)] ?_
 refine nl (X_ret (rj [pw w116.heap.size 0] hR_ ?_))
 have B126:Below w.heap.size w w12:=(bgo (bt b2 b9) g14 hsp8 (b2).size)
 have B127:Below w.heap.size w w116:=(bg (bt (bgo (bt b2 b9) g14 hsp8 (b2).size) b112) g117 (B126).size)
 rw[hps,fin_not (.inr fun h_=>by have h1_:=h_.1; have h2_:=h_.2; omega)]
 exact⟨_,_,_,rfl,(B127).size,k123,(Kd.R_below r120 b122),(fun k_ hk_=>Nat.le_trans b2.size (hsp16 k_ hk_)),(bt B127 b122)⟩
theorem bdelta_any (wB:World)(g:Nat)(b r:Int)(s:B.St)(A:Option Addr)(c:Nat)(w:World)(hB:wB.heap.size≤w.heap.size)(hk:RX.Blk w g 119 #[i6 b,i6 r,.slice A (List.map pOf s.1).length c,i6 s.2])(hR:kPiece.R 123 w wB.heap.size (OkFrom wB.heap.size) (.slice A (List.map pOf s.1).length c) (List.map pOf s.1))(hs2:0≤s.2∧s.2≤1099511627776)(hbd:badE s.1=0)(hl:s.1.length≤100000000):
  Calls Tryz.prog 47 #[pw g 0] w fun e w'=>∃ d A' c',e=.returned (pw d 0)∧w.heap.size≤d∧RX.Blk w' d 84 #[aL A' (List.map pOf (B.fin (B.dels s.1 s.2))) c']∧kPiece.R 123 w' wB.heap.size (OkFrom wB.heap.size) (aL A' (List.map pOf (B.fin (B.dels s.1 s.2))) c') (List.map pOf (B.fin (B.dels s.1 s.2)))∧(∀ k,A'.map (·.block)=some k→w.heap.size≤k)∧Below w.heap.size w w':=
 bdeltaO_any wB g b r s A c w hB hk hR (fun _ h=>Nat.le_trans hB h) hs2 hbd hl
def DeltaR (w:World)(Bs d:Nat)(A:Option Addr)(c:Nat)(xs:List OpA):Prop:=Bs≤d∧RX.Blk w d 84 #[aL A (List.map pOf xs) c]∧kPiece.R 123 w Bs (OkFrom Bs) (aL A (List.map pOf xs) c) (List.map pOf xs)
def DeltaC (w:World)(d:Nat)(xs:List OpA):Prop:=∃ A c,RX.Blk w d 84 #[aL A (List.map pOf xs) c]∧(List.map pOf xs).length≤c∧kPiece.C w A (List.map pOf xs).length (List.map pOf xs)
theorem DeltaR.c {w:World}{Bs d:Nat}{A:Option Addr}{c:Nat}{xs:List OpA}(h:DeltaR w Bs d A c xs):DeltaC w d xs:=⟨A,c,h.2.1,(RX.Kd.R_len h.2.2).2,Kd.R_C h.2.2⟩
theorem DeltaC.below {w w1:World}{d:Nat}{xs:List OpA}(h:DeltaC w d xs)(hb:Below w.heap.size w w1):DeltaC w1 d xs:=by
 obtain⟨A,c,h1,h2,h3⟩:=h
 exact⟨A,c,Blk.below h1 hb,h2,Kd.C_below h3 hb⟩
theorem DeltaR.below {w w1:World}{Bs d:Nat}{A:Option Addr}{c:Nat}{xs:List OpA}(h:DeltaR w Bs d A c xs)(hb:Below w.heap.size w w1):DeltaR w1 Bs d A c xs:=⟨h.1,Blk.below h.2.1 hb,Kd.R_below h.2.2 hb⟩
theorem dops_any (d:Nat)(xs:List OpA)(w:World)(hd:DeltaC w d xs)(hb:badE xs=0)(hn:xs.length≤1100000)(hz:∀ i,i<xs.length→opSz (xs.getD i op0)):Calls Tryz.prog 101 #[pw d 0] w fun e w'=>∃ A' c',e=.returned (.slice A' xs.length c')∧xs.length≤c'∧kOp.R 70 w' w.heap.size (OkFrom w.heap.size) (.slice A' xs.length c') xs∧Below w.heap.size w w':=by
 refine en Tryz.func101 rfl 8 [(0,pw d 0)] (fun R_ hR_=>?_)
 obtain⟨A0,c0,hk0,hc0,hC0⟩:=hd
 refine sg (xe0 1 [(0,pw d 0)] ?_)
 refine nl (sg (xe1 4 [(6,.load (aL A0 (List.map pOf xs) c0))] [(6,aL A0 (List.map pOf xs) c0)] (lc 82 hk0 0) ?_))
 refine xc 118 ent118 [aL A0 (List.map pOf xs) c0] (bplain_any _ _ xs _ hb hC0 hn hz) ?_
 rintro e w3 ⟨A1,c2,rfl,l4,r5,b6⟩; refine⟨_,rfl,?_⟩
 refine xe0 1 [(2,aL A1 xs c2)] ?_
 refine nl (X_ret (rj [aL A1 xs c2] hR_ ?_))
 exact⟨_,_,rfl,(RX.Kd.R_len r5).2,Kd.R_low r5 (Nat.le_refl _),b6⟩
theorem dpieces_any (d:Nat)(xs:List OpA)(w:World)(hd:DeltaC w d xs)(hb:badE xs=0)(hn:xs.length≤1100000)(hz:∀ i,i<xs.length→opSz (xs.getD i op0))(hT:Tabs w)(es:List Addr)(hE:ErrsO w es):Calls Tryz.prog 80 #[pw d 0] w fun e w'=>∃ A' c',e=.returned (.slice A' (List.map pOf xs).length c')∧kPiece.R 123 w' w.heap.size (OkFrom w.heap.size) (.slice A' (List.map pOf xs).length c') (List.map pOf xs)∧Below w.heap.size w w':=by
 refine en Tryz.func80 rfl 16 [(0,pw d 0)] (fun R_ hR_=>?_)
 refine sg (xe0 1 [(0,pw d 0)] ?_)
 refine nl (sg (xe0 1 [(7,pw d 0)] ?_))
 refine xc 101 ent101 [pw d 0] (dops_any _ xs _ hd hb hn hz) ?_
 rintro e w3 ⟨A1,c2,rfl,l4,r5,b6⟩; refine⟨_,rfl,?_⟩
 refine xc 60 ent60 [aL A1 xs c2] (of_any _ _ xs _ (Kd.R_C r5) (by omega) hz (hT.below b6) es (hE.below b6)) ?_
 rintro e w9 ⟨A7,c8,rfl,r10,b11⟩; refine⟨_,rfl,?_⟩
 rw[ofP_ok hb]at r10 ⊢; rw[badI_none hb,hb,errV_zero]
 refine xe0 7 [(3,aL A7 (List.map pOf xs) c8),(5,.nilIface)] ?_
 refine nl (sq (sg (xr0 2 [(14,bF)] [5] ?_)))
 refine nl (cf (sk (sg (xe0 2 [(2,aL A7 (List.map pOf xs) c8)] ?_))))
 refine nl (X_ret (rj [aL A7 (List.map pOf xs) c8] hR_ ?_))
 exact⟨_,_,rfl,Kd.R_low r10 (b6).size,(bt b6 b11)⟩
theorem bE_pushE {xs:List OpA}{i:Nat}(hi:i<xs.length):B.bE xs i=pushE (sB (xs.take i)) (sR (xs.take i)) (xs.getD i op0):=by
 unfold B.bE pushE
 rw[B.sB_take hi,B.sR_take hi]
theorem pushE_bE {xs:List OpA}{i:Nat}(hi:i<xs.length)(h:pushE (sB (xs.take i)) (sR (xs.take i)) (xs.getD i op0)=0):B.bE xs i=0:=by rw[bE_pushE hi]; exact h
set_option maxHeartbeats 4000000 in
theorem bof_any (A:Option Addr)(c:Nat)(xs:List OpA)(w:World)(hx:kOp.C w A xs.length xs)(hxc:xs.length≤c)(hn:xs.length≤1100000)(hz:∀ i,i<xs.length→opSz (xs.getD i op0))(ht:B.txS xs≤50000000)(hT:Tabs w)(es:List Addr)(hE:ErrsO w es):
  Calls Tryz.prog 32 #[aL A xs c] w fun e w'=>Below w.heap.size w w'∧(((B.bOf xs).2=0∧∃ d A' c',e=.returned (.tuple #[pw d 0,i6 0,.nilIface])∧DeltaR w' w.heap.size d A' c' (B.can xs))∨((B.bOf xs).2≠0∧e=.returned (.tuple #[.pointer none,i6 ((B.bOf xs).1:Int),errV es (B.bOf xs).2]))):=by
 have hpl:xs.length≤9223372036854775807:=hx.2.1
 have hfi:∀ o∈xs,B.fine o:=fun o ho=>by
  obtain⟨i,hi,rfl⟩:=List.getElem_of_mem ho
  have:=hz i hi
  rw[List.getD_eq_getElem?_getD,List.getElem?_eq_getElem hi]at this
  exact B.fine_of this
 refine en Tryz.func32 rfl 27 [(0,aL A xs c)] (fun R_ hR_=>?_)
 refine sg (xe0 3 [(0,aL A xs c)] ?_)
 refine nl (sg (xc 45 ent45 [] (bnew_any _) ?_))
 rintro e w_1 ⟨g,rfl,g2,k3,b4⟩; refine⟨_,rfl,?_⟩
 refine xr0 1 [(5,pw g 0)] [9] ?_
 refine nl (sq (sg (xr0 3 [(10,aL A xs c),(11,i6 (xs.length:Int)),(12,i6 0)] [0] ?_)))
 refine nl (X_block ?_)
 have hgw:=(Nat.le_trans (Nat.le_refl _) g2)
 refine X_loop (ι:=Nat×Option Addr×Nat) (fun⟨i,A5,c5⟩=>[(5,pw g 0),(10,aL A xs c),(11,i6 (xs.length:Int)),(12,i6 (i:Int))]) (fun⟨i,A5,c5⟩ wl=>i≤xs.length∧(∀ j,j<i→B.bE xs j=0)∧RX.Blk wl g 119 #[i6 (sB (xs.take i)),i6 (sR (xs.take i)),.slice A5 (List.map pOf ((B.run (xs.take i)).1)).length c5,i6 ((B.run (xs.take i)).2)]∧kPiece.R 123 wl w.heap.size (OkFrom w.heap.size) (aL A5 (List.map pOf ((B.run (xs.take i)).1)) c5) (List.map pOf ((B.run (xs.take i)).1))∧Below w.heap.size w wl) (fun⟨i,A5,c5⟩=>xs.length-i) (0,none,0) ⟨Nat.zero_le _,fun _ h_=>absurd h_ (Nat.not_lt_zero _),k3,Kd.R_nil _ _ _ _ _,b4⟩ (by kernel_rfl) ?_
 rintro⟨i,A5,c5⟩ wl ⟨hi,hb0,hkl,hrl,HB⟩
 have hiv:=B.inv_at hi hb0
 have hup:=B.bE_upto hi hb0
 have hgn:=B.inv_gone hiv hup.2.1
 have hln:=B.run_len (xs.take i)
 rw[List.length_take]at hln
 have hszr:=B.run_sz (xs.take i) (fun o_ ho_=>hfi o_ (List.mem_of_mem_take ho_))
 have htk:=B.txS_take xs i
 have hsB0:=sB_ok hup.1
 have hsR0:=sR_ok hup.1
 have hL_:B.L=1099511627776:=rfl
 refine sq (X_region ?_)
 by_cases c_5:(i:Int)<(xs.length:Int)
 ·refine xr1 1 [(13,.eq bT)] [(13,bT)] [] (dT c_5) ?_
  refine nl (sq (ct (sk (sq (bk (sg (xr0 1 [(14,nv i)] [13] ?_)))))))
  obtain⟨ad6,B9,c10,a7,hc8,l11,C12⟩:=Kd.atOp (Kd.C_below hx HB) (i:=(i:Int)) (by omega) (by omega)
  replace hc8:CellsAt wl (ad6.add ((i:Int).toNat*7)) (o7L (xs.getD i op0) (aL B9 (xs.getD i op0).attrs c10)):=hc8
  replace l11:(xs.getD i op0).attrs.length≤c10:=l11
  replace C12:kAttr.C wl B9 ((xs.getD i op0).attrs.length) (xs.getD i op0).attrs:=C12
  refine xw 3 [(15,.idx ad6),(16,.load (.agg (o7A (xs.getD i op0) (aL B9 (xs.getD i op0).attrs c10))))] [(7,pw wl.heap.size 0),(16,.agg (o7A (xs.getD i op0) (aL B9 (xs.getD i op0).attrs c10)))] [] (wl.alloc (.cells #[i6 0,s0,i6 0,i6 0,s0,i6 0,.slice none 0 0] 70)) [A=some ad6,(0:Int)≤(i:Int),(i:Int)<(xs.length:Int),la 70 (ad6.add ((i:Int).toNat*7)) (.agg (o7A (xs.getD i op0) (aL B9 (xs.getD i op0).attrs c10))) wl] ⟨a7,(by omega),(by omega),loadsE rfl rfl hc8 0 ⟨by kernel_rfl,by kernel_rfl⟩,trivial⟩ ?_
  obtain⟨w13,w17,b14,k15,z16⟩:=new_world wl #[i6 0,s0,i6 0,i6 0,s0,i6 0,.slice none 0 0] 70
  rw[w17]
  refine xr0 1 [(6,nv i)] [14] ?_
  refine xst (.agg (o7A (xs.getD i op0) (aL B9 (xs.getD i op0).attrs c10))) k15 0 (o7A (xs.getD i op0) (aL B9 (xs.getD i op0).attrs c10)) (fun w18 g19 k20 z21=>?_)
  refine nl (sg (xr 2 [(18,.load (.agg (o7A (xs.getD i op0) (aL B9 (xs.getD i op0).attrs c10))))] [(17,pw g 0),(18,.agg (o7A (xs.getD i op0) (aL B9 (xs.getD i op0).attrs c10)))] [7,16] [la 70 (⟨wl.heap.size,0,none⟩) (.agg (o7A (xs.getD i op0) (aL B9 (xs.getD i op0).attrs c10))) w18] ⟨loadsB rfl rfl k20 0 ⟨by kernel_rfl,by kernel_rfl⟩,trivial⟩ ?_))
  refine xc 46 ent46 [pw g 0,.agg (o7A (xs.getD i op0) (aL B9 (xs.getD i op0).attrs c10))] (push_any (xs.getD i op0) _ _ w g _ _ (B.run (xs.take i)) _ _ _ (bg (bt HB b14) g19 (HB).size) hgw (Blk.below hkl (bg b14 g19 (Nat.le_refl _))) (Kd.R_below hrl (bg b14 g19 (Nat.le_refl _))) ⟨hsB0,hup.2.1⟩ ⟨hsR0,hup.2.2⟩ ⟨hiv.g0,hgn⟩ hiv.good (by omega) (B.lst_txt (by omega)) (Kd.C_below C12 (bg b14 g19 (Nat.le_refl _))) l11 (hz i (by omega)) hT es hE) ?_
  rintro e w22 ⟨t23,⟨h1_24,rfl,A25,c26,k27,r28,hat29⟩|⟨h1_24,rfl,k27,r28⟩⟩
  ·refine⟨_,rfl,?_⟩
   have B30:Below w.heap.size w w22:=(bg (bt HB b14) g19 (HB).size).trans (Two.belowB t23 hgw (Kd.R_ge (Kd.R_below hrl (bg b14 g19 (Nat.le_refl _)))) ((bg (bt HB b14) g19 (HB).size)).size)
   have hbi:B.bE xs i=0:=pushE_bE (by omega) h1_24
   have hb1:∀ j,j<i+1→B.bE xs j=0:=fun j_ hj_=>by by_cases h_:j_<i; (· exact hb0 j_ h_); (· obtain rfl:j_=i:=(by omega); exact hbi)
   refine xe0 1 [(5,pw g 0),(6,nv i),(8,.nilIface),(10,aL A xs c),(11,i6 (xs.length:Int)),(12,nv i)] ?_
   refine nl (sg (xr0 2 [(21,bF)] [] ?_))
   refine nl (cf (sk (rg (xr1 2 [(24,.eq (i6 ((i:Int)+1)))] [(12,i6 ((i:Int)+1))] [6,8,21] (w6 ((i:Int)+1)) ?_))))
   refine nl ?_
   refine⟨(i+1,A25,c26),by kernel_rfl,?_,?_⟩
   ·exact⟨by omega,hb1,by rw[B.run_succ (by omega),B.sB_take (by omega),B.sR_take (by omega)]; exact k27,by rw[B.run_succ (by omega)]; exact r28,B30⟩
   (try dsimp only); omega
  refine⟨_,rfl,?_⟩
  have B31:Below w.heap.size w w22:=(bg (bt HB b14) g19 (HB).size).trans (Two.belowB t23 hgw (Kd.R_ge (Kd.R_below hrl (bg b14 g19 (Nat.le_refl _)))) ((bg (bt HB b14) g19 (HB).size)).size)
  have hbi:B.bE xs i=pushE (sB (xs.take i)) (sR (xs.take i)) (xs.getD i op0):=bE_pushE (by omega)
  have hne_:=h1_24; rw[←hbi]at hne_ ⊢
  have hfo:=B.first_at hb0 hne_ (show i<xs.length by omega)
  rw[errV_pos es _ (Nat.pos_of_ne_zero hne_)]
  refine xe0 1 [(5,pw g 0),(6,nv i),(8,.iface 208 (.pointer (some (errAt es (B.bE xs i))))),(10,aL A xs c),(11,i6 (xs.length:Int)),(12,nv i)] ?_
  refine nl (sg (xr0 2 [(21,bT)] [] ?_))
  refine nl (ct (sg (xe0 5 [(2,.pointer none),(3,nv i),(4,.iface 208 (.pointer (some (errAt es (B.bE xs i)))))] ?_)))
  refine nl (X_ret (rj [.pointer none,i6 (i:Int),.iface 208 (.pointer (some (errAt es (B.bE xs i))))] hR_ ?_))
  have hfo2:B.bOf xs=(i,B.bE xs i):=hfo
  rw[hfo2]
  refine⟨B31,.inr ⟨hne_,?_⟩⟩
  rw[errV_pos es _ (Nat.pos_of_ne_zero hne_)]; rfl
 refine xr1 1 [(13,.eq bF)] [(13,bF)] [] (dF c_5) ?_
 refine nl (sq (cf (X_exit (sg (xe0 1 [(25,pw g 0)] ?_)))))
 refine xc 47 ent47 [pw g 0] (bdelta_any w g _ _ (B.run (xs.take i)) _ _ _ (HB).size hkl hrl ⟨hiv.g0,hgn⟩ hiv.good (by omega)) ?_
 rintro e w34 ⟨d,A32,c33,rfl,d35,k36,r37,hsp38,b39⟩; refine⟨_,rfl,?_⟩
 refine xe0 3 [(2,pw d 0),(3,i6 0),(4,.nilIface)] ?_
 refine nl (X_ret (rj [pw d 0,i6 0,.nilIface] hR_ ?_))
 have hxi:xs.take i=xs:=List.take_of_length_le (by omega)
 have hfo2:B.bOf xs=(0,0):=B.first_none fun j_ hj_=>hb0 j_ (by omega)
 rw[hxi]at k36 r37
 rw[hfo2]
 exact⟨(bt HB b39),.inl ⟨rfl,d,A32,c33,rfl,(Nat.le_trans (HB).size d35),k36,r37⟩⟩
inductive PEl
  | ins (A:Option Addr) (n c:Nat) (t:ByteArray) (k:Int)
  | emb (A:Option Addr) (n c:Nat) (t:ByteArray) (v:Value)
  | ret (A:Option Addr) (n c:Nat) (k:Int)
  | del (k:Int)
def PEl.val :PEl→Value
  | .ins A n c t k=>.iface 153 (.agg #[.slice A n c,.string t,.int .i64 k])
  | .emb A n c t v=>.iface 157 (.agg #[.slice A n c,.string t,v])
  | .ret A n c k=>.iface 131 (.agg #[.slice A n c,.int .i64 k])
  | .del k=>.iface 126 (.agg #[.int .i64 k])
def PEl.op :PEl→Int×Int
  | .ins _ _ _ _ k=>(1,k)
  | .emb _ _ _ _ _=>(2,1)
  | .ret _ _ _ k=>(3,k)
  | .del k=>(4,k)
noncomputable def pelO (o:OpA):Int×Int:=(o.kind,if o.kind=1 then ((U.sc o.text).length:Int)else if o.kind=2 then 1 else o.count)
theorem pel_of {w:World}{o:OpA}{cs:List Value}(h:kPiece.K w (pOf o) cs)(ho:pErr o=0):∃ x:PEl,cs=[x.val]∧x.op=pelO o:=by
  rcases kind_of_ok ho with hk|hk|hk|hk
  · rw[pOf_ins hk]at h
    obtain⟨A,c,rfl,_⟩:=kPiece_ins h
    exact⟨.ins A o.attrs.length c o.text _,rfl,by unfold PEl.op pelO; rw[hk]; rfl⟩
  · rw[pOf_emb hk]at h
    obtain⟨A,c,rfl,_⟩:=kPiece_emb h
    exact⟨.emb A o.attrs.length c o.text _,rfl,by unfold PEl.op pelO; rw[hk]; rfl⟩
  · rw[pOf_ret hk]at h
    obtain⟨A,c,rfl,_⟩:=kPiece_ret h
    exact⟨.ret A o.attrs.length c o.count,rfl,by unfold PEl.op pelO; rw[hk]; rfl⟩
  · rw[pOf_del hk]at h
    obtain rfl:=kPiece_del h
    exact⟨.del o.count,rfl,by unfold PEl.op pelO; rw[hk]; rfl⟩
def plStep (p:Int)(b:Bool)(s o:Int×Int):Int×Int:=
  if o.1=3 then (s.1+o.2,s.2)else if o.1=4 then (s.1+o.2,s.2-min o.2 (max (p-s.1) 0))else (s.1,if s.1<p∨(s.1=p∧b=true)then s.2+o.2 else s.2)
def plFold (p:Int)(b:Bool)(ps:List (Int×Int)):Int×Int:=ps.foldl (plStep p b) (0,p)
def rfStep (p:Int)(b:Bool)(s o:Int×Int):Int×Int:=
  if o.1=1∨o.1=2 then (s.1,if s.1<p∨(s.1=p∧b=true)then s.2+o.2 else s.2)else if o.1=3 then (s.1+o.2,s.2+max 0 (min (p-s.1) o.2))else if o.1=4 then (s.1+o.2,s.2)else s
def rfFold (p:Int)(b:Bool)(ps:List (Int×Int)):Int×Int:=ps.foldl (rfStep p b) (0,0)
def plOf (p:Int)(b:Bool)(ps:List (Int×Int)):Int:=(plFold p b ps).2
theorem plFold_snoc (p:Int)(b:Bool)(ps:List (Int×Int))(o:Int×Int):plFold p b (ps++[o])=plStep p b (plFold p b ps) o:=by unfold plFold; rw[List.foldl_append]; rfl
theorem rfFold_snoc (p:Int)(b:Bool)(ps:List (Int×Int))(o:Int×Int):rfFold p b (ps++[o])=rfStep p b (rfFold p b ps) o:=by unfold rfFold; rw[List.foldl_append]; rfl
def PlOk (M:Int)(ps:List (Int×Int)):Prop:=∀ o∈ps,(o.1=1∨o.1=2∨o.1=3∨o.1=4)∧0≤o.2∧o.2≤M
theorem snocInd {α:Type}{P:List α→Prop}(h0:P [])(h1:∀ l a,P l→P (l++[a])):∀ l,P l:=fun l=>by
  have:∀ r:List α,P r.reverse:=fun r=>by
    induction r with
    | nil=>exact h0
    | cons a r ih=>rw[List.reverse_cons]; exact h1 _ _ ih
  have h:=this l.reverse
  rwa [List.reverse_reverse]at h
section
variable {p : Int} {b : Bool} {s o : Int × Int}
theorem pl_ins (h:o.1=1∨o.1=2):plStep p b s o=(s.1,if s.1<p∨(s.1=p∧b=true)then s.2+o.2 else s.2):=by
  unfold plStep
  rw[if_neg (show ¬o.1=3 by omega),if_neg (show ¬o.1=4 by omega)]
theorem pl_ret (h:o.1=3):plStep p b s o=(s.1+o.2,s.2):=by unfold plStep; rw[if_pos h]
theorem pl_del (h:o.1=4):plStep p b s o=(s.1+o.2,s.2-min o.2 (max (p-s.1) 0)):=by unfold plStep; rw[if_neg (show ¬o.1=3 by omega),if_pos h]
theorem rf_ins (h:o.1=1∨o.1=2):rfStep p b s o=(s.1,if s.1<p∨(s.1=p∧b=true)then s.2+o.2 else s.2):=by unfold rfStep; rw[if_pos h]
theorem rf_ret (h:o.1=3):rfStep p b s o=(s.1+o.2,s.2+max 0 (min (p-s.1) o.2)):=by unfold rfStep; rw[if_neg (show ¬(o.1=1∨o.1=2) by omega),if_pos h]
theorem rf_del (h:o.1=4):rfStep p b s o=(s.1+o.2,s.2):=by unfold rfStep; rw[if_neg (show ¬(o.1=1∨o.1=2) by omega),if_neg (show ¬o.1=3 by omega),if_pos h]
end
theorem pl_rf {M p:Int}(b:Bool)(hp:0≤p):∀ ps,PlOk M ps→(plFold p b ps).1=(rfFold p b ps).1∧(plFold p b ps).2=(rfFold p b ps).2+max 0 (p-(rfFold p b ps).1):=by
  refine snocInd (fun _=>⟨rfl,by show p=0+max 0 (p-0); omega⟩) fun ps o ih h=>?_
  obtain⟨h1,h2⟩:=ih fun x hx=>h x (List.mem_append_left _ hx)
  obtain⟨hk,ho,_⟩:=h o (by simp)
  rw[plFold_snoc,rfFold_snoc]
  generalize plFold p b ps=s at*
  generalize rfFold p b ps=r at*
  have hk':(o.1=1∨o.1=2)∨o.1=3∨o.1=4:=by omega
  rcases hk' with hk'|hk'|hk'
  · rw[pl_ins hk',rf_ins hk',←h1]
    refine⟨rfl,?_⟩
    dsimp only
    by_cases hc:s.1<p∨(s.1=p∧b=true)
    · rw[if_pos hc,if_pos hc]; omega
    · rw[if_neg hc,if_neg hc]; omega
  · rw[pl_ret hk',rf_ret hk']
    dsimp only
    omega
  · rw[pl_del hk',rf_del hk']
    dsimp only
    omega
theorem pl_bd {M p:Int}(b:Bool)(hp:0≤p)(hM:0≤M):∀ ps,PlOk M ps→0≤(plFold p b ps).1∧(plFold p b ps).1≤(ps.length:Int)*M∧0≤(plFold p b ps).2∧max (p-(plFold p b ps).1) 0≤(plFold p b ps).2∧(plFold p b ps).2≤p+(ps.length:Int)*M:=by
  refine snocInd (fun _=>⟨Int.le_refl _,by show (0:Int)≤((0:Nat):Int)*M; omega,hp,by show max (p-0) 0≤p; omega,by show p≤p+((0:Nat):Int)*M; omega⟩) fun ps o ih h=>?_
  obtain⟨h1,h2,h3,h4,h5⟩:=ih fun x hx=>h x (List.mem_append_left _ hx)
  obtain⟨hk,ho,hoM⟩:=h o (by simp)
  rw[plFold_snoc,List.length_append,List.length_singleton]
  have hmul:(((ps.length+1:Nat):Int))*M=(ps.length:Int)*M+M:=by rw[Int.natCast_add,Int.add_mul]; simp
  rw[hmul]
  generalize (ps.length:Int)*M=LM at*
  generalize plFold p b ps=s at*
  have hk':(o.1=1∨o.1=2)∨o.1=3∨o.1=4:=by omega
  rcases hk' with hk'|hk'|hk'
  · rw[pl_ins hk']
    dsimp only
    by_cases hc:s.1<p∨(s.1=p∧b=true)
    · rw[if_pos hc]; omega
    · rw[if_neg hc]; omega
  · rw[pl_ret hk']; dsimp only; omega
  · rw[pl_del hk']; dsimp only; omega
theorem pl_len (M p:Int)(b:Bool)(xs:List OpA)(i:Nat)(h:i<xs.length):plFold p b ((xs.take (i+1)).map pelO)=plStep p b (plFold p b ((xs.take i).map pelO)) (pelO (xs.getD i op0)):=by
  rw[take_snocD op0 xs i h,List.map_append,List.map_cons,List.map_nil,plFold_snoc]
theorem rf_len (p:Int)(b:Bool)(xs:List OpA)(i:Nat)(h:i<xs.length):rfFold p b ((xs.take (i+1)).map pelO)=rfStep p b (rfFold p b ((xs.take i).map pelO)) (pelO (xs.getD i op0)):=by
  rw[take_snocD op0 xs i h,List.map_append,List.map_cons,List.map_nil,rfFold_snoc]
end Go.Proofs.YtlnnjfdonilgmaaGreatDoor
