import Derived.Test.YtgphmfnkeolbcaaGreatDoorT4
import Derived.Test.YtgphmfnkeolbcaaGreatDoorAn3
/- What build.Of answers, and deltas. Conditions: sizes, the tables of utf8, the errors' variables. -/
set_option linter.unusedVariables false
set_option linter.unusedSimpArgs false
set_option maxRecDepth 100000
namespace Go.Proofs.YtgphmfnkeolbcaaGreatDoor
open Go Go.RowKit Go.Proofs.YtgphmfnkeolbcaaGreatDoorW.PrintWords RX
theorem ent91 :Ent Tryz.prog 91:=ent_of Tryz.func91 (by kernel_rfl) rfl
theorem ent56 :Ent Tryz.prog 56:=ent_of Tryz.func56 (by kernel_rfl) rfl
theorem ent74 :Ent Tryz.prog 74:=ent_of Tryz.func74 (by kernel_rfl) rfl
theorem fin_plain {ps:List OpA}(h:ps.length≠0)(hp:plainR (B.lst ps)):(List.map pOf ps).take ((List.map pOf ps).length-1)=List.map pOf (B.fin ps)∧(List.map pOf ps).length-1=(List.map pOf (B.fin ps)).length:=by
 unfold B.fin
 rw[if_pos ⟨h,hp⟩,List.length_map,List.map_take]
 exact⟨rfl,by rw[List.length_take,List.length_map]; omega⟩
theorem fin_not {ps:List OpA}(hp:ps.length=0∨¬plainR (B.lst ps)):B.fin ps=ps:=if_neg fun h=>hp.elim h.1 fun h2=>h2 h.2
set_option maxHeartbeats 2000000 in
theorem bdelta_any (wB:World)(g:Nat)(b r:Int)(s:B.St)(A:Option Addr)(c:Nat)(w:World)(hB:wB.heap.size≤w.heap.size)(hk:RX.Blk w g 194 #[i6 b,i6 r,.slice A (List.map pOf s.1).length c,i6 s.2])(hR:kPiece.R 124 w wB.heap.size (OkFrom wB.heap.size) (.slice A (List.map pOf s.1).length c) (List.map pOf s.1))(hs2:0≤s.2∧s.2≤1099511627776)(hbd:badE s.1=0)(hl:s.1.length≤100000000):
  Calls Tryz.prog 91 #[pw g 0] w fun e w'=>∃ d A' c',e=.returned (pw d 0)∧w.heap.size≤d∧RX.Blk w' d 162 #[aL A' (List.map pOf (B.fin (B.dels s.1 s.2))) c']∧kPiece.R 124 w' wB.heap.size (OkFrom wB.heap.size) (aL A' (List.map pOf (B.fin (B.dels s.1 s.2))) c') (List.map pOf (B.fin (B.dels s.1 s.2)))∧(∀ k,A'.map (·.block)=some k→w.heap.size≤k)∧Below w.heap.size w w':=by
 have hls:=dels_len s.1 s.2
 have hlm:(List.map pOf s.1).length=s.1.length:=List.length_map ..
 have hb':=dels_ok2 hbd hs2.1 hs2.2
 refine en Tryz.func91 rfl 45 [(0,pw g 0)] (fun R_ hR_=>?_)
 refine sg (xe0 1 [(0,pw g 0)] ?_)
 refine nl (sq (X_grow [9] 11 (tf 0 11) (by kernel_rfl) (by kernel_rfl) (by kernel_rfl) (fun wd1 b2 hh3=>?_)))
 refine XB_run (fuel':=3) (Below.refl _ _) [0,1,2,3,5,6,7,8] [(10,.load (aL A (List.map pOf s.1) c)),(15,.load (i6 s.2))] [pw g 0,pw g 0,pw g 2,.slice A ((List.map pOf s.1).length) c,pw g 0,pw g 0,pw g 3,i6 s.2] #[true,true,true,true,false,true,true,true,true,false,false] [(10,aL A (List.map pOf s.1) c),(15,i6 s.2)] (fun w_=>[la 160 (⟨g,2,none⟩) (aL A (List.map pOf s.1) c) w_,la 3 (⟨g,3,none⟩) (i6 s.2) w_]) (fun w_ hC_=>⟨loads1 rfl (Blk.cell (Blk.below hk (bt b2 hC_)) 2 _ rfl),loads1 rfl (Blk.cell (Blk.below hk (bt b2 hC_)) 3 _ rfl),trivial⟩) ?_
 refine XB_mid (fuel':=2) 4 (tf 9 2) _ rfl (by kernel_rfl) (by kernel_rfl) rfl ?_
 refine xc 143 ent143 [aL A (List.map pOf s.1) c] (pclone_any _ _ s.1 wB _ (Nat.le_trans hB b2.size) (Kd.R_below hR b2) (by omega)) ?_
 rintro e w_6 ⟨A4,c5,rfl,r7,hsp8,b9⟩; refine⟨_,rfl,?_⟩
 refine nl ?_
 refine⟨b9,?_⟩
 refine XB_act (fuel':=1) 9 (tf 10 1) _ rfl (by kernel_rfl) rfl (by kernel_rfl) rfl ?_
 refine xc 137 ent137 [.slice A4 ((List.map pOf s.1).length) c5,i6 s.2] (bdeleted_any _ _ s.1 _ wB _ (Nat.le_trans hB (Nat.le_trans b2.size b9.size)) r7 (by omega)) ?_
 rintro e w12 ⟨A10,c11,rfl,r13,g14,hat15⟩; refine⟨_,rfl,?_⟩
 have hsp16:∀ k_,A10.map (·.block)=some k_→wd1.heap.size≤k_:=fun k_ hk_=>by rcases hat15 with h_|⟨b_,h_,h2_⟩; (· exact hsp8 k_ (by rw[←h_]; exact hk_)); (· rw[h_]at hk_; injection hk_ with hk_; subst hk_; exact Nat.le_trans b9.size h2_)
 obtain⟨ps,hps⟩:∃ ps,B.dels s.1 s.2=ps:=⟨_,rfl⟩
 rw[hps]at hls hb' r13 ⊢
 have hlm2:(List.map pOf ps).length=ps.length:=List.length_map ..
 refine nl (XB_pure (fuel':=0) [10] [] [aL A10 (List.map pOf ps) c11] (tf 11 0) [(3,aL A10 (List.map pOf ps) c11)] (fun w_=>[]) (fun _ _ _ _ h=>h) (fun w_=>by kernel_rfl) rfl (fun w_=>trivial) ?_)
 refine XB_done (by kernel_rfl) ?_
 refine sg (xr1 4 [(19,.eq (i6 (((List.map pOf ps).length:Int)-1)))] [(4,i6 (((List.map pOf ps).length:Int)-1))] [] (w6 (((List.map pOf ps).length:Int)-1)) ?_)
 refine nl (sq (sg (xr0 1 [(20,i6 (((List.map pOf ps).length:Int)-1))] [] ?_)))
 by_cases c17:((List.map pOf ps).length:Int)-1<0
 ·refine xr1 1 [(21,.eq bT)] [(21,bT)] [20] (dT c17) ?_
  refine nl (ct (sg (xc 144 ent144 [] (bempty_any _) ?_)))
  rintro e w19 ⟨g18,rfl,g20,k21,b22⟩; refine⟨_,rfl,?_⟩
  refine xe0 1 [(2,pw g18 0)] ?_
  refine nl (X_ret (rj [pw g18 0] hR_ ?_))
  have B23:Below w.heap.size w w19:=(bt (bgo (bt b2 b9) g14 hsp8 (b2).size) b22)
  rw[hps]
  obtain rfl:ps=[]:=List.eq_nil_of_length_eq_zero (by omega)
  exact⟨_,none,0,rfl,Nat.le_trans (Nat.le_trans (Nat.le_trans b2.size b9.size) g14.size) g20,k21,Kd.R_nil _ _ _ _ _,fun _ h_=>(by cases h_),B23⟩
 have hne:ps.length≠0:=by omega
 refine xr1 1 [(21,.eq bF)] [(21,bF)] [20] (dF c17) ?_
 refine nl (cf (sk (sq (sg (xr0 2 [(24,aL A10 (List.map pOf ps) c11),(25,i6 (((List.map pOf ps).length:Int)-1))] [21] ?_)))))
 obtain⟨ad24,cs27,a25,M28,c26⟩:=Kd.R_at piece0 r13 (i:=((List.map pOf ps).length:Int)-1) (by omega) (by omega)
 obtain⟨v29,rfl⟩:=kPiece_one M28
 replace c26:CellsAt w12 (ad24.add ((((List.map pOf ps).length:Int)-1).toNat*1)) [v29]:=c26
 refine xr 1 [(26,.idx ad24)] [(26,.pointer (some (ad24.add ((((List.map pOf ps).length:Int)-1).toNat*1))))] [24,25] [A10=some ad24,(0:Int)≤((List.map pOf ps).length:Int)-1,((List.map pOf ps).length:Int)-1<((List.map pOf ps).length:Int)] ⟨a25,(by omega),(by omega),trivial⟩ ?_
 rw[last_get hne]at M28
 have hla:=lst_ok hb' hne
 rcases kind_of_ok hla with hlk|hlk|hlk|hlk
 ·rw[pOf_ins hlk]at M28
  obtain⟨A31,c32,e33,l34,R35⟩:=kPiece_insM M28
  obtain rfl:=(List.cons.inj e33).1
  refine xwe 6 [(27,.load (.iface 249 (.agg #[.slice A31 ((B.lst ps).attrs.length) c32,sT ((B.lst ps).text),i6 ((U.sc (B.lst ps).text).length:Int)])))] [(3,aL A10 (List.map pOf ps) c11),(4,i6 (((List.map pOf ps).length:Int)-1)),(5,pw w12.heap.size 0),(29,.agg #[.slice none 0 0,i6 0]),(30,bF)] (w12.alloc (.cells #[.slice none 0 0,i6 0] 128)) [la 124 (ad24.add ((((List.map pOf ps).length:Int)-1).toNat*1)) (.iface 249 (.agg #[.slice A31 ((B.lst ps).attrs.length) c32,sT ((B.lst ps).text),i6 ((U.sc (B.lst ps).text).length:Int)])) w12] ⟨loads1 rfl (elem_cell c26 0 _ rfl),trivial⟩ ?_
  obtain⟨w36,w40,b37,k38,z39⟩:=new_world w12 #[.slice none 0 0,i6 0] 128
  rw[w40]
  refine xst (.agg #[.slice none 0 0,i6 0]) k38 0 #[.slice none 0 0,i6 0] (fun w41 g42 k43 z44=>?_)
  have r45:=Kd.R_off (Kd.R_below r13 b37) k38 (by decide) g42
  refine xr0 1 [(6,bF)] [29,30] ?_
  refine nl (sg (xr0 8 [(38,bF)] [5,6] ?_))
  refine nl (cf (sk (sg (xwe 3 [] [(44,pw w41.heap.size 0)] (w41.alloc (.cells #[aL A10 (List.map pOf ps) c11] 162)) [] trivial ?_))))
  obtain⟨w46,w50,b47,k48,z49⟩:=new_world w41 #[aL A10 (List.map pOf ps) c11] 162
  rw[w50]
  refine xe0 1 [(2,pw w41.heap.size 0)] ?_
  refine nl (X_ret (rj [pw w41.heap.size 0] hR_ ?_))
  have B51:Below w.heap.size w w12:=(bgo (bt b2 b9) g14 hsp8 (b2).size)
  have B52:Below w.heap.size w w41:=(bg (bt (bgo (bt b2 b9) g14 hsp8 (b2).size) b37) g42 (B51).size)
  rw[hps,fin_not (.inr fun h_=>by have h1_:=h_.1; have h2_:=h_.2; omega)]
  exact⟨_,_,_,rfl,(B52).size,k48,(Kd.R_below r45 b47),(fun k_ hk_=>Nat.le_trans b2.size (hsp16 k_ hk_)),(bt B52 b47)⟩
 ·rw[pOf_emb hlk]at M28
  obtain⟨A53,c54,e55,l56,R57⟩:=kPiece_embM M28
  obtain rfl:=(List.cons.inj e55).1
  have hval:(B.lst ps).val=((B.lst ps).vk,(B.lst ps).vn,(B.lst ps).vt):=rfl
  rw[hval]at c26
  refine xwe 6 [(27,.load (.iface 253 (.agg #[.slice A53 ((B.lst ps).attrs.length) c54,sT ((B.lst ps).text),valV ((B.lst ps).vk,(B.lst ps).vn,(B.lst ps).vt)])))] [(3,aL A10 (List.map pOf ps) c11),(4,i6 (((List.map pOf ps).length:Int)-1)),(5,pw w12.heap.size 0),(29,.agg #[.slice none 0 0,i6 0]),(30,bF)] (w12.alloc (.cells #[.slice none 0 0,i6 0] 128)) [la 124 (ad24.add ((((List.map pOf ps).length:Int)-1).toNat*1)) (.iface 253 (.agg #[.slice A53 ((B.lst ps).attrs.length) c54,sT ((B.lst ps).text),valV ((B.lst ps).vk,(B.lst ps).vn,(B.lst ps).vt)])) w12] ⟨loads1 rfl (elem_cell c26 0 _ rfl),trivial⟩ ?_
  obtain⟨w58,w62,b59,k60,z61⟩:=new_world w12 #[.slice none 0 0,i6 0] 128
  rw[w62]
  refine xst (.agg #[.slice none 0 0,i6 0]) k60 0 #[.slice none 0 0,i6 0] (fun w63 g64 k65 z66=>?_)
  have r67:=Kd.R_off (Kd.R_below r13 b59) k60 (by decide) g64
  refine xr0 1 [(6,bF)] [29,30] ?_
  refine nl (sg (xr0 8 [(38,bF)] [5,6] ?_))
  refine nl (cf (sk (sg (xwe 3 [] [(44,pw w63.heap.size 0)] (w63.alloc (.cells #[aL A10 (List.map pOf ps) c11] 162)) [] trivial ?_))))
  obtain⟨w68,w72,b69,k70,z71⟩:=new_world w63 #[aL A10 (List.map pOf ps) c11] 162
  rw[w72]
  refine xe0 1 [(2,pw w63.heap.size 0)] ?_
  refine nl (X_ret (rj [pw w63.heap.size 0] hR_ ?_))
  have B73:Below w.heap.size w w12:=(bgo (bt b2 b9) g14 hsp8 (b2).size)
  have B74:Below w.heap.size w w63:=(bg (bt (bgo (bt b2 b9) g14 hsp8 (b2).size) b59) g64 (B73).size)
  rw[hps,fin_not (.inr fun h_=>by have h1_:=h_.1; have h2_:=h_.2; omega)]
  exact⟨_,_,_,rfl,(B74).size,k70,(Kd.R_below r67 b69),(fun k_ hk_=>Nat.le_trans b2.size (hsp16 k_ hk_)),(bt B74 b69)⟩
 ·rw[pOf_ret hlk]at M28
  obtain⟨A75,c76,e77,l78,R79⟩:=kPiece_retM M28
  obtain rfl:=(List.cons.inj e77).1
  refine xwe 6 [(27,.load (.iface 128 (.agg #[.slice A75 ((B.lst ps).attrs.length) c76,i6 ((B.lst ps).count)])))] [(3,aL A10 (List.map pOf ps) c11),(4,i6 (((List.map pOf ps).length:Int)-1)),(5,pw w12.heap.size 0),(29,.agg #[.slice A75 ((B.lst ps).attrs.length) c76,i6 ((B.lst ps).count)]),(30,bT)] (w12.alloc (.cells #[.slice none 0 0,i6 0] 128)) [la 124 (ad24.add ((((List.map pOf ps).length:Int)-1).toNat*1)) (.iface 128 (.agg #[.slice A75 ((B.lst ps).attrs.length) c76,i6 ((B.lst ps).count)])) w12] ⟨loads1 rfl (elem_cell c26 0 _ rfl),trivial⟩ ?_
  obtain⟨w80,w84,b81,k82,z83⟩:=new_world w12 #[.slice none 0 0,i6 0] 128
  rw[w84]
  refine xst (.agg #[.slice A75 ((B.lst ps).attrs.length) c76,i6 ((B.lst ps).count)]) k82 0 #[.slice A75 ((B.lst ps).attrs.length) c76,i6 ((B.lst ps).count)] (fun w85 g86 k87 z88=>?_)
  have r89:=Kd.R_off (Kd.R_below r13 b81) k82 (by decide) g86
  refine xr0 1 [(6,bT)] [29,30] ?_
  refine nl (sg (xr1 6 [(35,.load (aL A75 (B.lst ps).attrs c76))] [(32,bT),(36,i6 ((B.lst ps).attrs.length:Int))] [5,6] (lc 49 k87 0) ?_))
  by_cases c90:((B.lst ps).attrs.length:Int)=0
  ·refine xr1 2 [(37,.eq bT)] [(38,bT)] [32,36] (bE c90) ?_
   refine nl (ct (X_region ?_))
   refine xe 4 [(41,.as (.slice A10 ((((List.map pOf ps).length:Int)-1).toNat) c11))] [(3,.slice A10 ((((List.map pOf ps).length:Int)-1).toNat) c11)] [RunsAs Tryz.prog [(39,aL A10 (List.map pOf ps) c11),(40,i6 (((List.map pOf ps).length:Int)-1))] (Go.Op.slice 160 (Go.Operand.tmp 39) none (some (Go.Operand.tmp 40)) none) 160 (.slice A10 ((((List.map pOf ps).length:Int)-1).toNat) c11) w85] ⟨runs_slice_h (h:=((List.map pOf ps).length:Int)-1) rfl rfl rfl rfl (by omega) (by have h:=(RX.Kd.R_len r13).2; (try simp only[List.length_append,List.length_cons,List.length_nil]at h); omega),trivial⟩ ?_
   refine nl (sg (xwe 3 [] [(44,pw w85.heap.size 0)] (w85.alloc (.cells #[.slice A10 ((((List.map pOf ps).length:Int)-1).toNat) c11] 162)) [] trivial ?_))
   obtain⟨w92,w96,b93,k94,z95⟩:=new_world w85 #[.slice A10 ((((List.map pOf ps).length:Int)-1).toNat) c11] 162
   rw[w96]
   refine xe0 1 [(2,pw w85.heap.size 0)] ?_
   refine nl (X_ret (rj [pw w85.heap.size 0] hR_ ?_))
   have B97:Below w.heap.size w w12:=(bgo (bt b2 b9) g14 hsp8 (b2).size)
   have B98:Below w.heap.size w w85:=(bg (bt (bgo (bt b2 b9) g14 hsp8 (b2).size) b81) g86 (B97).size)
   rw[hps]
   obtain⟨ht1,ht2⟩:=fin_plain hne ⟨hlk,by omega⟩
   have hR2:=RX.Kd.R_take (Kd.R_below r89 b93) (m:=(List.map pOf ps).length-1) (by omega)
   have hk2:=k94
   have hn2:(((List.map pOf ps).length:Int)-1).toNat=(List.map pOf ps).length-1:=by omega
   rw[hn2,ht2]at hk2
   rw[ht1,ht2]at hR2
   exact⟨_,_,_,rfl,(B98).size,hk2,hR2,(fun k_ hk_=>Nat.le_trans b2.size (hsp16 k_ hk_)),(bt B98 b93)⟩
  refine xr1 2 [(37,.eq bF)] [(38,bF)] [32,36] (bN c90) ?_
  refine nl (cf (sk (sg (xwe 3 [] [(44,pw w85.heap.size 0)] (w85.alloc (.cells #[aL A10 (List.map pOf ps) c11] 162)) [] trivial ?_))))
  obtain⟨w99,w103,b100,k101,z102⟩:=new_world w85 #[aL A10 (List.map pOf ps) c11] 162
  rw[w103]
  refine xe0 1 [(2,pw w85.heap.size 0)] ?_
  refine nl (X_ret (rj [pw w85.heap.size 0] hR_ ?_))
  have B104:Below w.heap.size w w12:=(bgo (bt b2 b9) g14 hsp8 (b2).size)
  have B105:Below w.heap.size w w85:=(bg (bt (bgo (bt b2 b9) g14 hsp8 (b2).size) b81) g86 (B104).size)
  rw[hps,fin_not (.inr fun h_=>by have h1_:=h_.1; have h2_:=h_.2; omega)]
  exact⟨_,_,_,rfl,(B105).size,k101,(Kd.R_below r89 b100),(fun k_ hk_=>Nat.le_trans b2.size (hsp16 k_ hk_)),(bt B105 b100)⟩
 rw[pOf_del hlk]at M28
 have e108:=kPiece_del (kPiece.K_of_M M28)
 obtain rfl:=(List.cons.inj e108).1
 refine xwe 6 [(27,.load (.iface 133 (.agg #[i6 ((B.lst ps).count)])))] [(3,aL A10 (List.map pOf ps) c11),(4,i6 (((List.map pOf ps).length:Int)-1)),(5,pw w12.heap.size 0),(29,.agg #[.slice none 0 0,i6 0]),(30,bF)] (w12.alloc (.cells #[.slice none 0 0,i6 0] 128)) [la 124 (ad24.add ((((List.map pOf ps).length:Int)-1).toNat*1)) (.iface 133 (.agg #[i6 ((B.lst ps).count)])) w12] ⟨loads1 rfl (elem_cell c26 0 _ rfl),trivial⟩ ?_
 obtain⟨w111,w115,b112,k113,z114⟩:=new_world w12 #[.slice none 0 0,i6 0] 128
 rw[w115]
 refine xst (.agg #[.slice none 0 0,i6 0]) k113 0 #[.slice none 0 0,i6 0] (fun w116 g117 k118 z119=>?_)
 have r120:=Kd.R_off (Kd.R_below r13 b112) k113 (by decide) g117
 refine xr0 1 [(6,bF)] [29,30] ?_
 refine nl (sg (xr0 8 [(38,bF)] [5,6] ?_))
 refine nl (cf (sk (sg (xwe 3 [] [(44,pw w116.heap.size 0)] (w116.alloc (.cells #[aL A10 (List.map pOf ps) c11] 162)) [] trivial ?_))))
 obtain⟨w121,w125,b122,k123,z124⟩:=new_world w116 #[aL A10 (List.map pOf ps) c11] 162
 rw[w125]
 refine xe0 1 [(2,pw w116.heap.size 0)] ?_
 refine nl (X_ret (rj [pw w116.heap.size 0] hR_ ?_))
 have B126:Below w.heap.size w w12:=(bgo (bt b2 b9) g14 hsp8 (b2).size)
 have B127:Below w.heap.size w w116:=(bg (bt (bgo (bt b2 b9) g14 hsp8 (b2).size) b112) g117 (B126).size)
 rw[hps,fin_not (.inr fun h_=>by have h1_:=h_.1; have h2_:=h_.2; omega)]
 exact⟨_,_,_,rfl,(B127).size,k123,(Kd.R_below r120 b122),(fun k_ hk_=>Nat.le_trans b2.size (hsp16 k_ hk_)),(bt B127 b122)⟩
def DeltaR (w:World)(Bs d:Nat)(A:Option Addr)(c:Nat)(xs:List OpA):Prop:=Bs≤d∧RX.Blk w d 162 #[aL A (List.map pOf xs) c]∧kPiece.R 124 w Bs (OkFrom Bs) (aL A (List.map pOf xs) c) (List.map pOf xs)
def DeltaC (w:World)(d:Nat)(xs:List OpA):Prop:=∃ A c,RX.Blk w d 162 #[aL A (List.map pOf xs) c]∧(List.map pOf xs).length≤c∧kPiece.C w A (List.map pOf xs).length (List.map pOf xs)
theorem DeltaR.c {w:World}{Bs d:Nat}{A:Option Addr}{c:Nat}{xs:List OpA}(h:DeltaR w Bs d A c xs):DeltaC w d xs:=⟨A,c,h.2.1,(RX.Kd.R_len h.2.2).2,Kd.R_C h.2.2⟩
theorem DeltaC.below {w w1:World}{d:Nat}{xs:List OpA}(h:DeltaC w d xs)(hb:Below w.heap.size w w1):DeltaC w1 d xs:=by
 obtain⟨A,c,h1,h2,h3⟩:=h
 exact⟨A,c,Blk.below h1 hb,h2,Kd.C_below h3 hb⟩
theorem dcount_any (d:Nat)(xs:List OpA)(w:World)(hd:DeltaC w d xs):Rt 74 #[pw d 0] w (i6 (xs.length:Int)):=by
 have hlm:(List.map pOf xs).length=xs.length:=List.length_map ..
 refine en Tryz.func74 rfl 8 [(0,pw d 0)] (fun R_ hR_=>?_)
 obtain⟨A0,c0,hk0,hc0,hC0⟩:=hd
 refine sg (xe0 1 [(0,pw d 0)] ?_)
 refine nl (sg (xe1 6 [(6,.load (aL A0 (List.map pOf xs) c0))] [(2,i6 ((List.map pOf xs).length:Int))] (lc 160 hk0 0) ?_))
 refine nl (X_ret (rj [i6 ((List.map pOf xs).length:Int)] hR_ ?_))
 rw[←hlm]
 exact⟨rfl,(Below.refl _ _)⟩
theorem dops_any (d:Nat)(xs:List OpA)(w:World)(hd:DeltaC w d xs)(hb:badE xs=0)(hn:xs.length≤1100000)(hz:∀ i,i<xs.length→opSz (xs.getD i op0)):Calls Tryz.prog 56 #[pw d 0] w fun e w'=>∃ A' c',e=.returned (.slice A' xs.length c')∧xs.length≤c'∧kOp.R 102 w' w.heap.size (OkFrom w.heap.size) (.slice A' xs.length c') xs∧Below w.heap.size w w':=by
 refine en Tryz.func56 rfl 8 [(0,pw d 0)] (fun R_ hR_=>?_)
 obtain⟨A0,c0,hk0,hc0,hC0⟩:=hd
 refine sg (xe0 1 [(0,pw d 0)] ?_)
 refine nl (sg (xe1 4 [(6,.load (aL A0 (List.map pOf xs) c0))] [(6,aL A0 (List.map pOf xs) c0)] (lc 160 hk0 0) ?_))
 refine xc 116 ent116 [aL A0 (List.map pOf xs) c0] (bplain_any _ _ xs _ hb hC0 hn hz) ?_
 rintro e w3 ⟨A1,c2,rfl,l4,r5,b6⟩; refine⟨_,rfl,?_⟩
 refine xe0 1 [(2,aL A1 xs c2)] ?_
 refine nl (X_ret (rj [aL A1 xs c2] hR_ ?_))
 exact⟨_,_,rfl,(RX.Kd.R_len r5).2,Kd.R_low r5 (Nat.le_refl _),b6⟩
end Go.Proofs.YtgphmfnkeolbcaaGreatDoor
