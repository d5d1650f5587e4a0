/- cells.Of: the delta of cells. Conditions: sizes, the tables of utf8, the errors' variables. -/
import Derived.Test.YtgphmfnkeolbcaaGreatDoorT31
set_option linter.unusedVariables false
set_option linter.unusedSimpArgs false
set_option maxRecDepth 100000
namespace Go.Proofs.YtgphmfnkeolbcaaGreatDoor
open Go Go.RowKit Go.Proofs.YtgphmfnkeolbcaaGreatDoorW.PrintWords RX
theorem ent93 :Ent Tryz.prog 93:=ent_of Tryz.func93 (by kernel_rfl) rfl
theorem ent22 :Ent Tryz.prog 22:=ent_of Tryz.func22 (by kernel_rfl) rfl


theorem map_snocR (ys:List CellA)(j:Nat)(h:j<ys.length):(ys.take j).map (·.rune)++[(ys.getD j cell0).rune]=(ys.take (j+1)).map (·.rune):=by rw[take_snocD cell0 ys j h,List.map_append]; rfl
theorem take_same {ys:List CellA}{j:Nat}{a:List At}(h:∀ q,q<j→(ys.getD q cell0).rune≠ -1∧(ys.getD q cell0).attrs=a):∀ c∈ys.take j,c.rune≠ -1∧c.attrs=a:=by
 intro c hc
 obtain⟨q,hq,e⟩:=List.mem_iff_getElem.1 hc
 rw[List.length_take]at hq
 rw[List.getElem_take]at e
 have:=h q (by omega)
 rwa [List.getD_eq_getElem?_getD,List.getElem?_eq_getElem (by omega),Option.getD_some,e]at this
theorem run_add (zs:List OpA)(i k:Nat):((zs.drop i).take k).foldl B.step (B.run (zs.take i))=B.run (zs.take (i+k)):=by
 unfold B.run
 rw[List.take_add,List.foldl_append]
theorem drop_getD (cs:List CellA)(i q:Nat):(cs.drop i).getD q cell0=cs.getD (i+q) cell0:=by rw[List.getD_eq_getElem?_getD,List.getElem?_drop,←List.getD_eq_getElem?_getD]
set_option maxHeartbeats 4000000 in
theorem grun_any (Lq:Option Addr)(n ck:Nat)(ys:List CellA)(wB:World)(g:Nat)(b r:Int)(s:B.St)(A:Option Addr)(c:Nat)(w:World)(hB0:Below wB.heap.size wB w)(hgB:wB.heap.size≤g)(hk:RX.Blk w g 194 #[i6 b,i6 r,.slice A (List.map pOf s.1).length c,i6 s.2])(hR:kPiece.R 124 w wB.heap.size (OkFrom wB.heap.size) (.slice A (List.map pOf s.1).length c) (List.map pOf s.1))(hb:0≤b∧b≤1099511627776)(hr:0≤r∧r≤1099511627776)(hs2:0≤s.2∧s.2≤1099511627776)(hbd:badE s.1=0)(hl:s.1.length≤100000000)(hlt:(B.lst s.1).text.size≤1000000000)(hn:ys.length=n)(h0:0<n)(hy:kCell.C w Lq n ys)(hyc:n≤ck)(hg:∀ c∈ys,B.cErr c=0)(hz:∀ i,i<ys.length→B.cellSz (ys.getD i cell0))(hnl:n≤1048576)(hbl:b≤1099511627776)(hrl:r+n≤1099511627776)(hT:Tabs wB)(es:List Addr)(hE:ErrsO wB es):
  Calls Tryz.prog 93 #[pw g 0,.slice Lq n ck] w fun e w'=>∃ k:Nat,0<k∧k≤n∧e=.returned (.tuple #[i6 (k:Int),.nilIface])∧Two g (A.map (·.block)) w w'∧∃ A' c',RX.Blk w' g 194 #[i6 b,i6 (r+(k:Int)),.slice A' (List.map pOf ((((ys.take k).map B.opC).foldl B.step s).1)).length c',i6 ((((ys.take k).map B.opC).foldl B.step s).2)]∧kPiece.R 124 w' wB.heap.size (OkFrom wB.heap.size) (aL A' (List.map pOf ((((ys.take k).map B.opC).foldl B.step s).1)) c') (List.map pOf ((((ys.take k).map B.opC).foldl B.step s).1))∧(A'.map (·.block)=A.map (·.block)∨∃ b,A'.map (·.block)=some b∧w.heap.size≤b):=by
 have hpl:n≤9223372036854775807:=hy.2.1
 have hz0:=hz 0 (by omega)
 have hg0:=hg _ (getD_mem cell0 (show 0<ys.length by omega))
 have hEA:ErrsA wB es:=hE.sub (by decide)
 refine en Tryz.func93 rfl 64 [(0,pw g 0),(1,.slice Lq n ck)] (fun R_ hR_=>?_)
 refine sg (xe0 2 [(0,pw g 0),(1,.slice Lq n ck)] ?_)
 refine nl (sg (xr0 1 [(12,.slice Lq n ck)] [] ?_))
 obtain⟨ad1,B4,c_5,a2,c3,l6,C7⟩:=Kd.atCell hy (i:=(0:Int)) (by omega) (by omega)
 replace c3:CellsAt w (ad1.add ((0:Int).toNat*6)) (c6L (ys.getD 0 cell0) (aL B4 (ys.getD 0 cell0).attrs c_5)):=c3
 replace l6:(ys.getD 0 cell0).attrs.length≤c_5:=l6
 replace C7:kAttr.C w B4 ((ys.getD 0 cell0).attrs.length) (ys.getD 0 cell0).attrs:=C7
 refine xw 3 [(13,.idx ad1),(14,.load (.agg (c6A (ys.getD 0 cell0) (aL B4 (ys.getD 0 cell0).attrs c_5))))] [(6,pw w.heap.size 0),(14,.agg (c6A (ys.getD 0 cell0) (aL B4 (ys.getD 0 cell0).attrs c_5)))] [12] (w.alloc (.cells #[.int .i32 0,s0,i6 0,i6 0,s0,.slice none 0 0] 51)) [Lq=some ad1,(0:Int)≤0,0<(n:Int),la 51 (ad1.add ((0:Int).toNat*6)) (.agg (c6A (ys.getD 0 cell0) (aL B4 (ys.getD 0 cell0).attrs c_5))) w] ⟨a2,(by omega),(by omega),loadsE rfl rfl c3 0 ⟨by kernel_rfl,by kernel_rfl⟩,trivial⟩ ?_
 obtain⟨w8,w12,b9,k10,z11⟩:=new_world w #[.int .i32 0,s0,i6 0,i6 0,s0,.slice none 0 0] 51
 rw[w12]
 refine xst (.agg (c6A (ys.getD 0 cell0) (aL B4 (ys.getD 0 cell0).attrs c_5))) k10 0 (c6A (ys.getD 0 cell0) (aL B4 (ys.getD 0 cell0).attrs c_5)) (fun w_13 g14 k15 z16=>?_)
 have hne17:g≠w.heap.size:=Blk.tne (Blk.below hk b9) k10 rfl
 have k18:=Blk.other (Blk.below hk b9) g14 hne17
 have r19:=Kd.R_off (Kd.R_below hR b9) k10 (by decide) g14
 refine nl (sq (sg (xr1 2 [(16,.load (.int .i32 ((ys.getD 0 cell0).rune)))] [(16,.int .i32 ((ys.getD 0 cell0).rune))] [14] (lc 21 k15 0) ?_)))
 by_cases c20:(ys.getD 0 cell0).rune=(-1)
 ·refine xr1 1 [(17,.eq bT)] [(17,bT)] [16] (bE c20) ?_
  refine nl (ct (sg (xe 7 [(20,.load (sT ((ys.getD 0 cell0).kind))),(22,.load (.agg #[i6 ((ys.getD 0 cell0).vk),i6 ((ys.getD 0 cell0).vn),sT ((ys.getD 0 cell0).vt)])),(24,.load (aL B4 (ys.getD 0 cell0).attrs c_5))] [(18,pw g 0),(20,sT ((ys.getD 0 cell0).kind)),(22,.agg #[i6 ((ys.getD 0 cell0).vk),i6 ((ys.getD 0 cell0).vn),sT ((ys.getD 0 cell0).vt)]),(24,aL B4 (ys.getD 0 cell0).attrs c_5)] [_,la 48 (⟨w.heap.size,2,none⟩) (.agg #[i6 ((ys.getD 0 cell0).vk),i6 ((ys.getD 0 cell0).vn),sT ((ys.getD 0 cell0).vt)]) w_13,_] ⟨lc 9 k15 1,loadsB rfl rfl k15 2 ⟨by kernel_rfl,by kernel_rfl⟩,lc 49 k15 5,trivial⟩ ?_)))
  have hO:(⟨2,(ys.getD 0 cell0).kind,(ys.getD 0 cell0).vk,(ys.getD 0 cell0).vn,(ys.getD 0 cell0).vt,0,(ys.getD 0 cell0).attrs⟩:OpA)=B.opC (ys.getD 0 cell0):=(B.op_emb c20).symm
  obtain⟨g1,g2,g3⟩:=B.op_ok hg0
  have hzO:opSz (⟨2,(ys.getD 0 cell0).kind,(ys.getD 0 cell0).vk,(ys.getD 0 cell0).vn,(ys.getD 0 cell0).vt,0,(ys.getD 0 cell0).attrs⟩:OpA):=by rw[hO]; exact(B.op_sz hg0 hz0).1
  have hpo:pErr (⟨2,(ys.getD 0 cell0).kind,(ys.getD 0 cell0).vk,(ys.getD 0 cell0).vn,(ys.getD 0 cell0).vt,0,(ys.getD 0 cell0).attrs⟩:OpA)=0:=by rw[hO]; exact g1
  have hob:opB (⟨2,(ys.getD 0 cell0).kind,(ys.getD 0 cell0).vk,(ys.getD 0 cell0).vn,(ys.getD 0 cell0).vt,0,(ys.getD 0 cell0).attrs⟩:OpA)=0:=by rw[hO]; exact g2
  have hor:opR (⟨2,(ys.getD 0 cell0).kind,(ys.getD 0 cell0).vk,(ys.getD 0 cell0).vn,(ys.getD 0 cell0).vt,0,(ys.getD 0 cell0).attrs⟩:OpA)=((1:Nat):Int):=by rw[hO]; exact g3
  have hX:B.step s (⟨2,(ys.getD 0 cell0).kind,(ys.getD 0 cell0).vk,(ys.getD 0 cell0).vn,(ys.getD 0 cell0).vt,0,(ys.getD 0 cell0).attrs⟩:OpA)=(((ys.take 1).map B.opC).foldl B.step s):=by rw[hO,take_snocD cell0 ys 0 (by omega)]; rfl
  refine xc 150 ent150 [pw g 0,sT ((ys.getD 0 cell0).kind),.agg #[i6 ((ys.getD 0 cell0).vk),i6 ((ys.getD 0 cell0).vn),sT ((ys.getD 0 cell0).vt)],aL B4 (ys.getD 0 cell0).attrs c_5] (bembed_any ((ys.getD 0 cell0).kind) ((ys.getD 0 cell0).vk) ((ys.getD 0 cell0).vn) ((ys.getD 0 cell0).vt) (ys.getD 0 cell0).attrs _ _ wB g b r s A c _ (bg (bt hB0 b9) g14 hB0.size) hgB k18 r19 hb hr hs2 hbd hl hlt (Kd.C_below C7 (bg b9 g14 (Nat.le_refl _))) l6 hzO hT es hE) ?_
  intro e w21 t220
  obtain⟨t22,⟨h1_23,rfl,A24,c25,k26,r27,hat28⟩|⟨h1_23,_⟩⟩:=PushR.pre (bg b9 g14 (Nat.le_refl _)) t220
  ·refine⟨_,rfl,?_⟩
   rw[hX,hob,hor,Int.add_zero]at k26
   rw[hX]at r27
   refine xe0 2 [(4,i6 1),(5,.nilIface)] ?_
   refine nl (X_ret (rj [i6 1,.nilIface] hR_ ?_))
   exact⟨1,Nat.one_pos,h0,rfl,t22,A24,c25,k26,r27,hat28⟩
  exact absurd (pushE_ok hpo (by rw[hob]; omega) (by rw[hor]; omega)) h1_23
 refine xr1 1 [(17,.eq bF)] [(17,bF)] [16] (bN c20) ?_
 refine nl (cf (sk (sg (xr0 1 [(7,.slice none 0 0)] [17] ?_))))
 refine nl (sq (sg (xe0 3 [(0,pw g 0),(6,pw w.heap.size 0),(7,.slice none 0 0),(26,.slice Lq n ck),(27,nv n),(28,i6 0)] ?_)))
 refine nl (bk (X_loop (ι:=Nat×Option Addr×Nat×List Int) (fun⟨j,A7,c7,zs7⟩=>[(0,pw g 0),(6,pw w.heap.size 0),(7,aL A7 zs7 c7),(26,.slice Lq n ck),(27,i6 (n:Int)),(28,i6 (j:Int))]) (fun⟨j,A7,c7,zs7⟩ wl=>j≤n∧(∀ q,q<j→(ys.getD q cell0).rune≠ -1∧(ys.getD q cell0).attrs=(ys.getD 0 cell0).attrs)∧zs7=(ys.take j).map (·.rune)∧(Kd.int .i32).R 21 wl w_13.heap.size (OkFrom w_13.heap.size) (aL A7 zs7 c7) zs7∧Below w_13.heap.size w_13 wl) (fun⟨j,A7,c7,zs7⟩=>n-j) (0,none,0,[]) ⟨Nat.zero_le _,fun _ h_=>absurd h_ (Nat.not_lt_zero _),rfl,Kd.R_nil _ _ _ _ _,Below.refl _ _⟩ (by kernel_rfl) ?_))
 rintro⟨j,A7,c7,zs7⟩ wl ⟨hj,hq7,he7,hr7,HB⟩
 refine sq (X_region ?_)
 by_cases c29:(j:Int)<(n:Int)
 ·refine xr1 1 [(29,.eq bT)] [(29,bT)] [] (dT c29) ?_
  refine nl (sq (ct (sk (sq (bk (sq (X_region ?_)))))))
  obtain⟨ad30,B33,c34,a31,c32,l35,C36⟩:=Kd.atCell (Kd.C_below hy (bt (bg b9 g14 (Nat.le_refl _)) HB)) (i:=(j:Int)) (by omega) (by omega)
  replace c32:CellsAt wl (ad30.add ((j:Int).toNat*6)) (c6L (ys.getD j cell0) (aL B33 (ys.getD j cell0).attrs c34)):=c32
  replace l35:(ys.getD j cell0).attrs.length≤c34:=l35
  replace C36:kAttr.C wl B33 ((ys.getD j cell0).attrs.length) (ys.getD j cell0).attrs:=C36
  refine xw 3 [(30,.idx ad30),(31,.load (.agg (c6A (ys.getD j cell0) (aL B33 (ys.getD j cell0).attrs c34))))] [(9,pw wl.heap.size 0),(31,.agg (c6A (ys.getD j cell0) (aL B33 (ys.getD j cell0).attrs c34)))] [29] (wl.alloc (.cells #[.int .i32 0,s0,i6 0,i6 0,s0,.slice none 0 0] 51)) [Lq=some ad30,(0:Int)≤(j:Int),(j:Int)<(n:Int),la 51 (ad30.add ((j:Int).toNat*6)) (.agg (c6A (ys.getD j cell0) (aL B33 (ys.getD j cell0).attrs c34))) wl] ⟨a31,(by omega),(by omega),loadsE rfl rfl c32 0 ⟨by kernel_rfl,by kernel_rfl⟩,trivial⟩ ?_
  obtain⟨w37,w41,b38,k39,z40⟩:=new_world wl #[.int .i32 0,s0,i6 0,i6 0,s0,.slice none 0 0] 51
  rw[w41]
  refine xst (.agg (c6A (ys.getD j cell0) (aL B33 (ys.getD j cell0).attrs c34))) k39 0 (c6A (ys.getD j cell0) (aL B33 (ys.getD j cell0).attrs c34)) (fun w42 g43 k44 z45=>?_)
  have hne46:g≠wl.heap.size:=Blk.tne (Blk.below k18 (bt HB b38)) k39 rfl
  have k47:=Blk.other (Blk.below k18 (bt HB b38)) g43 hne46
  have r48:=Kd.R_off (Kd.R_below hr7 b38) k39 (by decide) g43
  have r49:=Kd.R_off (Kd.R_below r19 (bt HB b38)) k39 (by decide) g43
  refine nl (sq (sg (xr1 2 [(33,.load (.int .i32 ((ys.getD j cell0).rune)))] [(33,.int .i32 ((ys.getD j cell0).rune))] [31] (lc 21 k44 0) ?_)))
  by_cases c50:(ys.getD j cell0).rune=(-1)
  ·refine xr1 9 [(34,.eq bT)] [(42,bT)] [33] (bE c50) ?_
   refine nl (ct (X_exit (sg (xr0 1 [(50,aL A7 zs7 c7)] [9,26,27,28,42] ?_))))
   have hj0:0<j:=by rcases Nat.eq_zero_or_pos j with h_|h_; (· subst h_; exact absurd c50 c20); (· exact h_)
   have hsame:=take_same hq7
   have hne7:ys.take j≠[]:=fun e_=>absurd (congrArg List.length e_) (by rw[List.length_take,List.length_nil]; omega)
   obtain⟨g1,g2,g3,g4⟩:=B.grp_ok hne7 hsame (fun c_ h_=>hg c_ (List.mem_of_mem_take h_))
   have htp:U.textP zs7=(runesBytes zs7,0):=by rw[he7]; exact if_pos g4
   have hzl:zs7.length=j:=by rw[he7,List.length_map,List.length_take]; omega
   have B51:Below wB.heap.size wB wl:=(bt (bg (bt hB0 b9) g14 hB0.size) HB)
   have B52:Below wB.heap.size wB w42:=(bg (bt (bt (bg (bt hB0 b9) g14 hB0.size) HB) b38) g43 (B51).size)
   refine xc 152 ent152 [aL A7 zs7 c7] (text_any _ _ zs7 _ (Kd.R_C r48) es (hEA.below B52)) ?_
   rintro e w53 ⟨rfl,b54⟩; refine⟨_,rfl,?_⟩
   rw[htp]
   rw[errV_zero]
   refine xe0 5 [(0,pw g 0),(6,pw w.heap.size 0),(7,aL A7 zs7 c7),(10,sT (runesBytes zs7)),(11,.nilIface)] ?_
   refine nl (sq (sg (xr0 2 [(55,bF)] [] ?_)))
   refine nl (cf (sk (sq (X_region ?_))))
   have B55:Below w_13.heap.size w_13 w53:=(bt (bg (bt HB b38) g43 (HB).size) b54)
   refine xe1 6 [(62,.load (aL B4 (ys.getD 0 cell0).attrs c_5))] [(58,i6 (zs7.length:Int)),(59,pw g 0),(60,sT (runesBytes zs7)),(62,aL B4 (ys.getD 0 cell0).attrs c_5)] (lc 49 (Blk.below k15 B55) 5) ?_
   have B56:Below w.heap.size w w53:=(bt (bg (bt (bt (bg b9 g14 (Nat.le_refl _)) HB) b38) g43 ((bt (bg b9 g14 (Nat.le_refl _)) HB)).size) b54)
   have hO:(⟨1,(runesBytes zs7),0,0,ByteArray.empty,0,(ys.getD 0 cell0).attrs⟩:OpA)=B.grp (ys.take j) (ys.getD 0 cell0).attrs:=by show (⟨1,runesBytes zs7,0,0,ByteArray.empty,0,_⟩:OpA)=⟨1,runesBytes ((ys.take j).map (·.rune)),0,0,ByteArray.empty,0,_⟩; rw[he7]
   have hzO:opSz (⟨1,(runesBytes zs7),0,0,ByteArray.empty,0,(ys.getD 0 cell0).attrs⟩:OpA):=⟨by have h_:=B.rb_size g4; rw[List.length_map,List.length_take]at h_; rw[hO]; show (runesBytes ((ys.take j).map (·.rune))).size≤_; omega,Nat.zero_le _,hz0.2.2⟩
   have hpo:pErr (⟨1,(runesBytes zs7),0,0,ByteArray.empty,0,(ys.getD 0 cell0).attrs⟩:OpA)=0:=by rw[hO]; exact g1
   have hob:opB (⟨1,(runesBytes zs7),0,0,ByteArray.empty,0,(ys.getD 0 cell0).attrs⟩:OpA)=0:=by rw[hO]; exact g2
   have hor:opR (⟨1,(runesBytes zs7),0,0,ByteArray.empty,0,(ys.getD 0 cell0).attrs⟩:OpA)=(j:Int):=by rw[hO,g3,List.length_take]; omega
   have hX:B.step s (⟨1,(runesBytes zs7),0,0,ByteArray.empty,0,(ys.getD 0 cell0).attrs⟩:OpA)=(((ys.take j).map B.opC).foldl B.step s):=by rw[hO]; exact B.grp_step hne7 hsame s
   refine xc 153 ent153 [pw g 0,sT (runesBytes zs7),aL B4 (ys.getD 0 cell0).attrs c_5] (btext_any (runesBytes zs7) (ys.getD 0 cell0).attrs _ _ wB g b r s A c _ (bt B52 b54) hgB (Blk.below k47 b54) (Kd.R_below r49 b54) hb hr hs2 hbd hl hlt (Kd.C_below C7 B56) l6 hzO hT es hE) ?_
   intro e w57 t580
   obtain⟨t58,⟨h1_59,rfl,A60,c61,k62,r63,hat64⟩|⟨h1_59,_⟩⟩:=PushR.pre B56 t580
   ·refine⟨_,rfl,?_⟩
    rw[hX,hob,hor,Int.add_zero]at k62
    rw[hX]at r63
    refine xe0 2 [(4,i6 (zs7.length:Int)),(5,.nilIface)] ?_
    refine nl (X_ret (rj [i6 (zs7.length:Int),.nilIface] hR_ ?_))
    rw[hzl]
    exact⟨j,hj0,hj,rfl,t58,A60,c61,k62,r63,hat64⟩
   exact absurd (pushE_ok hpo (by rw[hob]; omega) (by rw[hor]; omega)) h1_59
  refine xr 6 [(34,.eq bF),(37,.load (aL B33 (ys.getD j cell0).attrs c34)),(39,.load (aL B4 (ys.getD 0 cell0).attrs c_5))] [(35,bF),(37,aL B33 (ys.getD j cell0).attrs c34),(39,aL B4 (ys.getD 0 cell0).attrs c_5)] [33] [_,_,_] ⟨bN c50,lc 49 k44 5,lc 49 (Blk.below k15 (bg (bt HB b38) g43 (HB).size)) 5,trivial⟩ ?_
  have B65:Below w.heap.size w w42:=(bg (bt (bt (bg b9 g14 (Nat.le_refl _)) HB) b38) g43 ((bt (bg b9 g14 (Nat.le_refl _)) HB)).size)
  refine xc 151 ent151 [.slice B33 ((ys.getD j cell0).attrs.length) c34,aL B4 (ys.getD 0 cell0).attrs c_5] (asame_any _ _ _ _ ((ys.getD j cell0).attrs) ((ys.getD 0 cell0).attrs) _ (Kd.C_below C36 (bg b38 g43 (Nat.le_refl _))) (Kd.C_below C7 B65)) ?_
  rintro e w66 ⟨rfl,b67⟩; refine⟨_,rfl,?_⟩
  by_cases c68:decide ((ys.getD j cell0).attrs=(ys.getD 0 cell0).attrs)=true
  ·rw[show (decide ((ys.getD j cell0).attrs=(ys.getD 0 cell0).attrs):Bool)=true from by simpa using c68]
   refine xr0 2 [(42,bF)] [35,37,39,40] ?_
   refine nl (cf (sk (rg (xwe 4 [(45,.load (.int .i32 ((ys.getD j cell0).rune)))] [(0,pw g 0),(6,pw w.heap.size 0),(26,.slice Lq n ck),(27,nv n),(28,nv j),(43,aL A7 zs7 c7),(46,.slice (some ⟨w66.heap.size,0,none⟩) 1 1)] (w66.alloc (.cells #[.int .i32 ((ys.getD j cell0).rune)] 21)) [_] ⟨lc 21 (Blk.below k44 b67) 0,trivial⟩ ?_))))
   obtain⟨w69,w73,b70,k71,z72⟩:=new_world w66 #[.int .i32 ((ys.getD j cell0).rune)] 21
   rw[w73]
   rw[←w73]
   have B82:Below w_13.heap.size w_13 w66:=(bt (bg (bt HB b38) g43 (HB).size) b67)
   refine XL_append (Kd.int .i32) rfl rfl rfl w_13.heap.size 21 (.int .i32 0) 4 Tryz.underlying150 info21 rfl (by decide) (by omega) zs7 ((ys.getD j cell0).rune) [.int .i32 ((ys.getD j cell0).rune)] (fun _=>False) (by kernel_rfl) rfl (fun _ h=>h.elim) (Kd.R_below r48 b67) (B82).size (by rw[he7,List.length_map,List.length_take]; omega) ?_
   intro A74 c75 w76 r77 c78 g79 l80 a81
   have e90:(zs7++[(ys.getD j cell0).rune])=((ys.take (j+1)).map (·.rune)):=by rw[he7]; exact map_snocR ys j (by omega)
   rw[e90]at r77 ⊢
   refine xr0 1 [(7,aL A74 ((ys.take (j+1)).map (·.rune)) c75)] [43,46,47] ?_
   refine nl (rg (xr1 2 [(48,.eq (i6 ((j:Int)+1)))] [(28,i6 ((j:Int)+1))] [] (w6 ((j:Int)+1)) ?_))
   refine nl ?_
   refine⟨(j+1,A74,c75,((ys.take (j+1)).map (·.rune))),by kernel_rfl,?_,?_⟩
   ·refine⟨by omega,fun q_ hq_=>?_,rfl,r77,(bgo B82 g79 l80 (Nat.le_refl _))⟩
    by_cases e_:q_=j
    ·subst e_; exact⟨c50,of_decide_eq_true c68⟩
    exact hq7 q_ (by omega)
   (try dsimp only); omega
  rw[show (decide ((ys.getD j cell0).attrs=(ys.getD 0 cell0).attrs):Bool)=false from by simpa using c68]
  refine xr0 2 [(42,bT)] [35,37,39,40] ?_
  refine nl (ct (X_exit (sg (xe0 1 [(0,pw g 0),(6,pw w.heap.size 0),(7,aL A7 zs7 c7),(50,aL A7 zs7 c7)] ?_))))
  have hj0:0<j:=by rcases Nat.eq_zero_or_pos j with h_|h_; (· subst h_; exact absurd (decide_eq_true rfl) c68); (· exact h_)
  have hsame:=take_same hq7
  have hne7:ys.take j≠[]:=fun e_=>absurd (congrArg List.length e_) (by rw[List.length_take,List.length_nil]; omega)
  obtain⟨g1,g2,g3,g4⟩:=B.grp_ok hne7 hsame (fun c_ h_=>hg c_ (List.mem_of_mem_take h_))
  have htp:U.textP zs7=(runesBytes zs7,0):=by rw[he7]; exact if_pos g4
  have hzl:zs7.length=j:=by rw[he7,List.length_map,List.length_take]; omega
  have B91:Below wB.heap.size wB wl:=(bt (bg (bt hB0 b9) g14 hB0.size) HB)
  have B92:Below wB.heap.size wB w66:=(bt (bg (bt (bt (bg (bt hB0 b9) g14 hB0.size) HB) b38) g43 (B91).size) b67)
  refine xc 152 ent152 [aL A7 zs7 c7] (text_any _ _ zs7 _ (Kd.R_C (Kd.R_below r48 b67)) es (hEA.below B92)) ?_
  rintro e w93 ⟨rfl,b94⟩; refine⟨_,rfl,?_⟩
  rw[htp]
  rw[errV_zero]
  refine xr0 5 [(10,sT (runesBytes zs7)),(11,.nilIface)] [50,51] ?_
  refine nl (sq (sg (xr0 2 [(55,bF)] [] ?_)))
  refine nl (cf (sk (sq (X_region ?_))))
  have B95:Below w_13.heap.size w_13 w93:=(bt (bt (bg (bt HB b38) g43 (HB).size) b67) b94)
  refine xe1 6 [(62,.load (aL B4 (ys.getD 0 cell0).attrs c_5))] [(58,i6 (zs7.length:Int)),(59,pw g 0),(60,sT (runesBytes zs7)),(62,aL B4 (ys.getD 0 cell0).attrs c_5)] (lc 49 (Blk.below k15 B95) 5) ?_
  have hO:(⟨1,(runesBytes zs7),0,0,ByteArray.empty,0,(ys.getD 0 cell0).attrs⟩:OpA)=B.grp (ys.take j) (ys.getD 0 cell0).attrs:=by show (⟨1,runesBytes zs7,0,0,ByteArray.empty,0,_⟩:OpA)=⟨1,runesBytes ((ys.take j).map (·.rune)),0,0,ByteArray.empty,0,_⟩; rw[he7]
  have hzO:opSz (⟨1,(runesBytes zs7),0,0,ByteArray.empty,0,(ys.getD 0 cell0).attrs⟩:OpA):=⟨by have h_:=B.rb_size g4; rw[List.length_map,List.length_take]at h_; rw[hO]; show (runesBytes ((ys.take j).map (·.rune))).size≤_; omega,Nat.zero_le _,hz0.2.2⟩
  have hpo:pErr (⟨1,(runesBytes zs7),0,0,ByteArray.empty,0,(ys.getD 0 cell0).attrs⟩:OpA)=0:=by rw[hO]; exact g1
  have hob:opB (⟨1,(runesBytes zs7),0,0,ByteArray.empty,0,(ys.getD 0 cell0).attrs⟩:OpA)=0:=by rw[hO]; exact g2
  have hor:opR (⟨1,(runesBytes zs7),0,0,ByteArray.empty,0,(ys.getD 0 cell0).attrs⟩:OpA)=(j:Int):=by rw[hO,g3,List.length_take]; omega
  have hX:B.step s (⟨1,(runesBytes zs7),0,0,ByteArray.empty,0,(ys.getD 0 cell0).attrs⟩:OpA)=(((ys.take j).map B.opC).foldl B.step s):=by rw[hO]; exact B.grp_step hne7 hsame s
  refine xc 153 ent153 [pw g 0,sT (runesBytes zs7),aL B4 (ys.getD 0 cell0).attrs c_5] (btext_any (runesBytes zs7) (ys.getD 0 cell0).attrs _ _ wB g b r s A c _ (bt B92 b94) hgB (Blk.below k47 (bt b67 b94)) (Kd.R_below r49 (bt b67 b94)) hb hr hs2 hbd hl hlt (Kd.C_below C7 (bt (bt B65 b67) b94)) l6 hzO hT es hE) ?_
  intro e w96 t970
  obtain⟨t97,⟨h1_98,rfl,A99,c100,k101,r102,hat103⟩|⟨h1_98,_⟩⟩:=PushR.pre (bt (bt B65 b67) b94) t970
  ·refine⟨_,rfl,?_⟩
   rw[hX,hob,hor,Int.add_zero]at k101
   rw[hX]at r102
   refine xe0 2 [(4,i6 (zs7.length:Int)),(5,.nilIface)] ?_
   refine nl (X_ret (rj [i6 (zs7.length:Int),.nilIface] hR_ ?_))
   rw[hzl]
   exact⟨j,hj0,hj,rfl,t97,A99,c100,k101,r102,hat103⟩
  exact absurd (pushE_ok hpo (by rw[hob]; omega) (by rw[hor]; omega)) h1_98
 refine xr1 1 [(29,.eq bF)] [(29,bF)] [] (dF c29) ?_
 refine nl (sq (cf (X_exit (sg (xr0 1 [(50,aL A7 zs7 c7)] [26,27,28,29] ?_)))))
 have hj0:0<j:=by omega
 have hsame:=take_same hq7
 have hne7:ys.take j≠[]:=fun e_=>absurd (congrArg List.length e_) (by rw[List.length_take,List.length_nil]; omega)
 obtain⟨g1,g2,g3,g4⟩:=B.grp_ok hne7 hsame (fun c_ h_=>hg c_ (List.mem_of_mem_take h_))
 have htp:U.textP zs7=(runesBytes zs7,0):=by rw[he7]; exact if_pos g4
 have hzl:zs7.length=j:=by rw[he7,List.length_map,List.length_take]; omega
 have B104:Below wB.heap.size wB wl:=(bt (bg (bt hB0 b9) g14 hB0.size) HB)
 refine xc 152 ent152 [aL A7 zs7 c7] (text_any _ _ zs7 _ (Kd.R_C hr7) es (hEA.below B104)) ?_
 rintro e w105 ⟨rfl,b106⟩; refine⟨_,rfl,?_⟩
 rw[htp]
 rw[errV_zero]
 refine xr0 5 [(10,sT (runesBytes zs7)),(11,.nilIface)] [50,51] ?_
 refine nl (sq (sg (xr0 2 [(55,bF)] [] ?_)))
 refine nl (cf (sk (sg (xe1 6 [(62,.load (aL B4 (ys.getD 0 cell0).attrs c_5))] [(58,i6 (zs7.length:Int)),(59,pw g 0),(60,sT (runesBytes zs7)),(62,aL B4 (ys.getD 0 cell0).attrs c_5)] (lc 49 (Blk.below k15 (bt HB b106)) 5) ?_))))
 have B107:Below w.heap.size w w105:=(bt (bt (bg b9 g14 (Nat.le_refl _)) HB) b106)
 have hO:(⟨1,(runesBytes zs7),0,0,ByteArray.empty,0,(ys.getD 0 cell0).attrs⟩:OpA)=B.grp (ys.take j) (ys.getD 0 cell0).attrs:=by show (⟨1,runesBytes zs7,0,0,ByteArray.empty,0,_⟩:OpA)=⟨1,runesBytes ((ys.take j).map (·.rune)),0,0,ByteArray.empty,0,_⟩; rw[he7]
 have hzO:opSz (⟨1,(runesBytes zs7),0,0,ByteArray.empty,0,(ys.getD 0 cell0).attrs⟩:OpA):=⟨by have h_:=B.rb_size g4; rw[List.length_map,List.length_take]at h_; rw[hO]; show (runesBytes ((ys.take j).map (·.rune))).size≤_; omega,Nat.zero_le _,hz0.2.2⟩
 have hpo:pErr (⟨1,(runesBytes zs7),0,0,ByteArray.empty,0,(ys.getD 0 cell0).attrs⟩:OpA)=0:=by rw[hO]; exact g1
 have hob:opB (⟨1,(runesBytes zs7),0,0,ByteArray.empty,0,(ys.getD 0 cell0).attrs⟩:OpA)=0:=by rw[hO]; exact g2
 have hor:opR (⟨1,(runesBytes zs7),0,0,ByteArray.empty,0,(ys.getD 0 cell0).attrs⟩:OpA)=(j:Int):=by rw[hO,g3,List.length_take]; omega
 have hX:B.step s (⟨1,(runesBytes zs7),0,0,ByteArray.empty,0,(ys.getD 0 cell0).attrs⟩:OpA)=(((ys.take j).map B.opC).foldl B.step s):=by rw[hO]; exact B.grp_step hne7 hsame s
 refine xc 153 ent153 [pw g 0,sT (runesBytes zs7),aL B4 (ys.getD 0 cell0).attrs c_5] (btext_any (runesBytes zs7) (ys.getD 0 cell0).attrs _ _ wB g b r s A c _ (bt B104 b106) hgB (Blk.below k18 (bt HB b106)) (Kd.R_below r19 (bt HB b106)) hb hr hs2 hbd hl hlt (Kd.C_below C7 B107) l6 hzO hT es hE) ?_
 intro e w108 t1090
 obtain⟨t109,⟨h1_110,rfl,A111,c112,k113,r114,hat115⟩|⟨h1_110,_⟩⟩:=PushR.pre B107 t1090
 ·refine⟨_,rfl,?_⟩
  rw[hX,hob,hor,Int.add_zero]at k113
  rw[hX]at r114
  refine xe0 2 [(4,i6 (zs7.length:Int)),(5,.nilIface)] ?_
  refine nl (X_ret (rj [i6 (zs7.length:Int),.nilIface] hR_ ?_))
  rw[hzl]
  exact⟨j,hj0,hj,rfl,t109,A111,c112,k113,r114,hat115⟩
 exact absurd (pushE_ok hpo (by rw[hob]; omega) (by rw[hor]; omega)) h1_110
set_option maxHeartbeats 4000000 in
theorem c9of_any (A:Option Addr)(c:Nat)(cs:List CellA)(w:World)(hx:kCell.C w A cs.length cs)(hxc:cs.length≤c)(hn:cs.length≤500000)(hz:∀ i,i<cs.length→B.cellSz (cs.getD i cell0))(hT:Tabs w)(es:List Addr)(hE:ErrsO w es):
  Calls Tryz.prog 22 #[aL A cs c] w fun e w'=>Below w.heap.size w w'∧(((B.cOf cs).2=0∧∃ d A' c',e=.returned (.tuple #[pw d 0,i6 0,.nilIface])∧DeltaR w' w.heap.size d A' c' (B.can (cs.map B.opC)))∨((B.cOf cs).2≠0∧e=.returned (.tuple #[.pointer none,i6 ((B.cOf cs).1:Int),errV es (B.cOf cs).2]))):=by
 have hpl:cs.length≤9223372036854775807:=hx.2.1
 obtain⟨zs,hzs⟩:∃ z_,cs.map B.opC=z_:=⟨_,rfl⟩
 have hzl:zs.length=cs.length:=by rw[←hzs]; exact List.length_map ..
 rw[hzs]
 have hL_:B.L=1099511627776:=rfl
 refine en Tryz.func22 rfl 48 [(0,aL A cs c)] (fun R_ hR_=>?_)
 refine sg (xe0 3 [(0,aL A cs c)] ?_)
 refine nl (sq (sg (xr0 3 [(12,aL A cs c),(13,i6 (cs.length:Int)),(14,i6 0)] [] ?_)))
 refine nl (bk (X_loop (ι:=Nat) (fun i=>[(0,aL A cs c),(12,aL A cs c),(13,i6 (cs.length:Int)),(14,i6 (i:Int))]) (fun i wl=>i≤cs.length∧(∀ j,j<i→B.cErr (cs.getD j cell0)=0)∧Below w.heap.size w wl) (fun i=>cs.length-i) 0 ⟨Nat.zero_le _,fun _ h_=>absurd h_ (Nat.not_lt_zero _),(Below.refl _ _)⟩ (by kernel_rfl) ?_))
 rintro i wl ⟨hi,hb0,HB⟩
 refine sq (X_region ?_)
 by_cases c1:(i:Int)<(cs.length:Int)
 ·refine xr1 1 [(15,.eq bT)] [(15,bT)] [] (dT c1) ?_
  refine nl (sq (ct (sk (sq (bk (sg (xr0 1 [(16,nv i)] [15] ?_)))))))
  obtain⟨ad2,B5,c6,a3,c4,l7,C8⟩:=Kd.atCell (Kd.C_below hx HB) (i:=(i:Int)) (by omega) (by omega)
  replace c4:CellsAt wl (ad2.add ((i:Int).toNat*6)) (c6L (cs.getD i cell0) (aL B5 (cs.getD i cell0).attrs c6)):=c4
  replace l7:(cs.getD i cell0).attrs.length≤c6:=l7
  replace C8:kAttr.C wl B5 ((cs.getD i cell0).attrs.length) (cs.getD i cell0).attrs:=C8
  refine xw 3 [(17,.idx ad2),(18,.load (.agg (c6A (cs.getD i cell0) (aL B5 (cs.getD i cell0).attrs c6))))] [(6,pw wl.heap.size 0),(18,.agg (c6A (cs.getD i cell0) (aL B5 (cs.getD i cell0).attrs c6)))] [] (wl.alloc (.cells #[.int .i32 0,s0,i6 0,i6 0,s0,.slice none 0 0] 51)) [A=some ad2,(0:Int)≤(i:Int),(i:Int)<(cs.length:Int),la 51 (ad2.add ((i:Int).toNat*6)) (.agg (c6A (cs.getD i cell0) (aL B5 (cs.getD i cell0).attrs c6))) wl] ⟨a3,(by omega),(by omega),loadsE rfl rfl c4 0 ⟨by kernel_rfl,by kernel_rfl⟩,trivial⟩ ?_
  obtain⟨w9,w13,b10,k11,z12⟩:=new_world wl #[.int .i32 0,s0,i6 0,i6 0,s0,.slice none 0 0] 51
  rw[w13]
  refine xr0 1 [(5,nv i)] [16] ?_
  refine xst (.agg (c6A (cs.getD i cell0) (aL B5 (cs.getD i cell0).attrs c6))) k11 0 (c6A (cs.getD i cell0) (aL B5 (cs.getD i cell0).attrs c6)) (fun w14 g15 k16 z17=>?_)
  refine nl (sg (xr 1 [(19,.load (.agg (c6A (cs.getD i cell0) (aL B5 (cs.getD i cell0).attrs c6))))] [(19,.agg (c6A (cs.getD i cell0) (aL B5 (cs.getD i cell0).attrs c6)))] [6,18] [la 51 (⟨wl.heap.size,0,none⟩) (.agg (c6A (cs.getD i cell0) (aL B5 (cs.getD i cell0).attrs c6))) w14] ⟨loadsB rfl rfl k16 0 ⟨by kernel_rfl,by kernel_rfl⟩,trivial⟩ ?_))
  refine xc 92 ent92 [.agg (c6A (cs.getD i cell0) (aL B5 (cs.getD i cell0).attrs c6))] (ccheck9_any (cs.getD i cell0) _ _ _ (Kd.C_below C8 (bg b10 g15 (Nat.le_refl _))) (hz i (by omega)) (hT.below (bg (bt HB b10) g15 (HB).size)) es (hE.below (bg (bt HB b10) g15 (HB).size))) ?_
  rintro e w18 ⟨rfl,b19⟩; refine⟨_,rfl,?_⟩
  refine xe0 1 [(0,aL A cs c),(5,nv i),(7,errV es (B.cErr (cs.getD i cell0))),(12,aL A cs c),(13,i6 (cs.length:Int)),(14,nv i)] ?_
  refine nl (sg (xr0 1 [(21,errV es (B.cErr (cs.getD i cell0)))] [] ?_))
  by_cases c20:(B.cErr (cs.getD i cell0))=0
  ·rw[show errV es (B.cErr (cs.getD i cell0))=.nilIface from by rw[c20]; rfl]
   refine xr0 1 [(7,.nilIface),(22,bF)] [21] ?_
   refine nl (cf (sk (rg (xr1 2 [(25,.eq (i6 ((i:Int)+1)))] [(14,i6 ((i:Int)+1))] [5,7,22] (w6 ((i:Int)+1)) ?_))))
   refine nl ?_
   have B21:Below w.heap.size w w18:=(bt (bg (bt HB b10) g15 (HB).size) b19)
   refine⟨(i+1),by kernel_rfl,?_,?_⟩
   ·exact⟨by omega,fun j_ hj_=>(by by_cases h_:j_<i; (· exact hb0 j_ h_); (· obtain rfl:j_=i:=(by omega); exact c20)),B21⟩
   (try dsimp only); omega
  rw[errV_pos es (B.cErr (cs.getD i cell0)) (Nat.pos_of_ne_zero c20)]
  refine xr0 1 [(7,.iface 301 (.pointer (some (errAt es (B.cErr (cs.getD i cell0)))))),(22,bT)] [21] ?_
  refine nl (ct (sg (xe0 5 [(2,.pointer none),(3,nv i),(4,.iface 301 (.pointer (some (errAt es (B.cErr (cs.getD i cell0))))))] ?_)))
  refine nl (X_ret (rj [.pointer none,i6 (i:Int),.iface 301 (.pointer (some (errAt es (B.cErr (cs.getD i cell0)))))] hR_ ?_))
  have B22:Below w.heap.size w w18:=(bt (bg (bt HB b10) g15 (HB).size) b19)
  have hof:B.cOf cs=(i,B.cErr (cs.getD i cell0)):=B.first_at hb0 c20 (show i<cs.length by omega)
  rw[hof]
  refine⟨B22,.inr ⟨c20,?_⟩⟩
  rw[errV_pos es _ (Nat.pos_of_ne_zero c20)]; rfl
 refine xr1 1 [(15,.eq bF)] [(15,bF)] [] (dF c1) ?_
 refine nl (sq (cf (X_exit (sq (X_region ?_)))))
 have hof:B.cOf cs=(0,0):=B.first_none fun j_ hj_=>hb0 j_ (by omega)
 have hgd:=B.cOf_ok (cs:=cs) (by rw[hof])
 obtain⟨hd1,hd2,hd3⟩:=B.doc_ok cs hgd
 obtain⟨hsz,htx⟩:=docSz hgd hz
 have hbf:=B.doc_of hgd (by omega)
 rw[hzs]at hd1 hd2 hd3 hsz htx hbf
 have hfi:∀ o∈zs,B.fine o:=fun o_ ho_=>by obtain⟨i_,hi_,rfl⟩:=List.getElem_of_mem ho_; have h_:=hsz i_ hi_; rw[List.getD_eq_getElem?_getD,List.getElem?_eq_getElem hi_]at h_; exact B.fine_of h_
 have hbE:=B.first_zero (f:=B.bE zs) (n:=zs.length) (by show (B.bOf zs).2=0; rw[hbf])
 clear hb0 hi
 refine xc 80 ent80 [] (bnew_any _) ?_
 rintro e w23 ⟨g,rfl,g24,k25,b26⟩; refine⟨_,rfl,?_⟩
 refine xr0 1 [(8,pw g 0)] [12,13,14,15,26] ?_
 refine nl (sq (sg (xr0 1 [(9,i6 0)] [] ?_)))
 refine nl (X_block ?_)
 have hgw:=(Nat.le_trans (HB).size g24)
 refine X_loop (ι:=Nat×Option Addr×Nat) (fun⟨q,A5,c5⟩=>[(0,aL A cs c),(8,pw g 0),(9,i6 (q:Int))]) (fun⟨q,A5,c5⟩ wm=>q≤cs.length∧RX.Blk wm g 194 #[i6 0,i6 (q:Int),.slice A5 (List.map pOf ((B.run (zs.take q)).1)).length c5,i6 ((B.run (zs.take q)).2)]∧kPiece.R 124 wm w.heap.size (OkFrom w.heap.size) (aL A5 (List.map pOf ((B.run (zs.take q)).1)) c5) (List.map pOf ((B.run (zs.take q)).1))∧Below w.heap.size w wm) (fun⟨q,A5,c5⟩=>cs.length-q) (0,none,0) ⟨Nat.zero_le _,k25,Kd.R_nil _ _ _ _ _,(bt HB b26)⟩ (by kernel_rfl) ?_
 rintro⟨q,A5,c5⟩ wm ⟨hq,hkl,hrl,HB2⟩
 have hb1:∀ j,j<q→B.bE zs j=0:=fun j_ h_=>hbE j_ (by omega)
 have hiv:=B.inv_at (show q≤zs.length by omega) hb1
 have hup:=B.bE_upto (show q≤zs.length by omega) hb1
 have hgn:=B.inv_gone hiv hup.2.1
 have hln:=B.run_len (zs.take q)
 rw[List.length_take]at hln
 have hszr:=B.run_sz (zs.take q) (fun o_ ho_=>hfi o_ (List.mem_of_mem_take ho_))
 have htk:=B.txS_take zs q
 refine sq (sg (xr0 3 [(27,nv q),(29,i6 (cs.length:Int))] [] ?_))
 by_cases c27:(q:Int)<(cs.length:Int)
 ·refine xr1 1 [(30,.eq bT)] [(30,bT)] [27,29] (dT c27) ?_
  refine nl (ct (sk (bk (sq (X_region ?_)))))
  obtain⟨A28,A29⟩:∃ A_,(if c=q then A else A.map (·.add (q*6)))=A_:=⟨_,rfl⟩
  have C30:kCell.C w A28 (cs.length-q) (cs.drop q):=by have h:=RX.Kd.C_drop hx (k:=q) (cap:=c) (by omega) (by omega); first|(rw[←A29]; exact h)
  refine xr 4 [(35,.as (.slice A28 (cs.length-q) (c-q)))] [(32,pw g 0),(35,.slice A28 (cs.length-q) (c-q))] [30] [RunsAs Tryz.prog [(33,aL A cs c),(34,i6 (q:Int))] (Go.Op.slice 39 (Go.Operand.tmp 33) (some (Go.Operand.tmp 34)) none none) 39 (.slice A28 (cs.length-q) (c-q)) wm] ⟨(A29▸runs_slice_l (h:=(q:Int)) rfl rfl rfl rfl (by omega) (by omega) (by omega)),trivial⟩ ?_
  refine xc 93 ent93 [pw g 0,.slice A28 (cs.length-q) (c-q)] (grun_any _ _ _ (cs.drop q) w g 0 (q:Int) (B.run (zs.take q)) _ _ _ HB2 hgw hkl hrl ⟨by omega,by omega⟩ ⟨by omega,by omega⟩ ⟨hiv.g0,hgn⟩ hiv.good (by omega) (B.lst_txt (by omega)) (List.length_drop ..) (by omega) (Kd.C_below C30 HB2) (by omega) (fun c_ h_=>hgd c_ (List.mem_of_mem_drop h_)) (fun i_ h_=>by rw[List.length_drop]at h_; rw[drop_getD]; exact hz _ (by omega)) (by omega) (by omega) (by omega) hT es hE) ?_
  rintro e w31 ⟨k,hk0_38,hkn39,rfl,t32,A33,c34,k35,r36,hat37⟩; refine⟨_,rfl,?_⟩
  have X41:(((cs.drop q).take k).map B.opC).foldl B.step (B.run (zs.take q))=B.run (zs.take (q+k)):=by rw[List.map_take,List.map_drop,hzs]; exact run_add zs q k
  rw[X41,←Int.natCast_add]at k35; rw[X41]at r36
  have B40:Below w.heap.size w w31:=HB2.trans (Two.belowB t32 hgw (Kd.R_ge hrl) (HB2).size)
  refine xr0 5 [(10,nv k),(11,.nilIface)] [32,35,36] ?_
  refine nl (sq (sg (xr0 2 [(40,bF)] [] ?_)))
  refine nl (cf (sk (rg (xe1 4 [(45,.eq (i6 ((q:Int)+(k:Int))))] [(0,aL A cs c),(8,pw g 0),(9,i6 ((q:Int)+(k:Int)))] (w6 ((q:Int)+(k:Int))) ?_))))
  refine nl ?_
  refine⟨(q+k,A33,c34),by kernel_rfl,?_,?_⟩
  ·exact⟨by omega,k35,r36,B40⟩
  (try dsimp only); omega
 refine xr1 1 [(30,.eq bF)] [(30,bF)] [27,29] (dF c27) ?_
 refine nl (cf (X_exit (sg (xe0 1 [(46,pw g 0)] ?_))))
 refine xc 91 ent91 [pw g 0] (bdelta_any w g _ _ (B.run (zs.take q)) _ _ _ (HB2).size hkl hrl ⟨hiv.g0,hgn⟩ hiv.good (by omega)) ?_
 rintro e w44 ⟨d,A42,c43,rfl,d45,k46,r47,hsp48,b49⟩; refine⟨_,rfl,?_⟩
 refine xe0 3 [(2,pw d 0),(3,i6 0),(4,.nilIface)] ?_
 refine nl (X_ret (rj [pw d 0,i6 0,.nilIface] hR_ ?_))
 have hxi:zs.take q=zs:=List.take_of_length_le (by omega)
 rw[hxi]at k46 r47
 rw[hof]
 exact⟨(bt HB2 b49),.inl ⟨rfl,d,A42,c43,rfl,(Nat.le_trans (HB2).size d45),k46,r47⟩⟩
end Go.Proofs.YtgphmfnkeolbcaaGreatDoor
