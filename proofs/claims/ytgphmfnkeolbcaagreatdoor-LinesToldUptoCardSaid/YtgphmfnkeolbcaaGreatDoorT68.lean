import Derived.Test.YtgphmfnkeolbcaaGreatDoorT67
import Derived.Test.YtgphmfnkeolbcaaGreatDoorClp
/- lines.Lines, At, Place, Touched, Text. Conditions: sizes, the tables of utf8, the errors' variables. -/
set_option linter.unusedVariables false
set_option linter.unusedSimpArgs false
set_option maxRecDepth 100000
namespace Go.Proofs.YtgphmfnkeolbcaaGreatDoor
open Go Go.RowKit Go.Proofs.YtgphmfnkeolbcaaGreatDoorW.PrintWords RX
theorem ent36 :Ent Tryz.prog 36:=ent_of Tryz.func36 (by kernel_rfl) rfl
theorem ent45 :Ent Tryz.prog 45:=ent_of Tryz.func45 (by kernel_rfl) rfl
theorem ent47 :Ent Tryz.prog 47:=ent_of Tryz.func47 (by kernel_rfl) rfl
theorem ent49 :Ent Tryz.prog 49:=ent_of Tryz.func49 (by kernel_rfl) rfl
theorem ent38 :Ent Tryz.prog 38:=ent_of Tryz.func38 (by kernel_rfl) rfl
abbrev ErrsL (w:World)(es:List Addr):Prop:=ErrsOn [1,5,6,7,8,9,10,11,12,14] w es
theorem ErrsL.o {w:World}{es:List Addr}(h:ErrsL w es):ErrsO w es:=h.sub (by decide)
theorem ErrsL.c {w:World}{es:List Addr}(h:ErrsL w es):ErrsC w es:=h.sub (by decide)
theorem lnOf_bd (xs:List OpA){j:Nat}(hj:j<(lnOf xs).length):0≤((lnOf xs).getD j line0).from_∧0≤((lnOf xs).getD j line0).len∧((lnOf xs).getD j line0).from_+((lnOf xs).getD j line0).len<((cellsAll xs).length:Int):=by
 unfold lnOf at hj ⊢
 by_cases h:lnErr xs=0
 ·rw[if_pos h]at hj ⊢
  obtain⟨h1,h2⟩:=lnRun_chain (cellsAll xs)
  obtain⟨i1,i2,_,_⟩:=lnRun_inv (cellsAll xs)
  obtain⟨a,b,c,_,_⟩:=lnChain_at _ _ h1 j hj
  exact⟨a,b,by omega⟩
 rw[if_neg h]at hj; exact absurd hj (Nat.not_lt_zero _)
theorem lnOf_len (xs:List OpA):(lnOf xs).length≤(cellsAll xs).length:=by
 unfold lnOf
 split
 ·exact(lnRun_inv _).2.2.2
 exact Nat.zero_le _
theorem lnErr_doc {xs:List OpA}(h:lnErr xs=0):isDoc xs=true∧lnEnds (cellsAll xs)=true:=by
 unfold lnErr at h
 by_cases h1:isDoc xs=true
 ·rw[if_pos h1]at h
  by_cases h2:lnEnds (cellsAll xs)=true
  ·exact⟨h1,h2⟩
  rw[if_neg h2]at h; cases h
 rw[if_neg h1]at h; cases h
theorem lnErr_le (xs:List OpA):lnErr xs≤19:=by unfold lnErr; repeat (first|omega|split)
theorem lines_any (d:Nat)(xs:List OpA)(w:World)(hd:DeltaC w d xs)(hb:badE xs=0)(hB:sB xs≤B.L)(hn:xs.length≤1100000)(hz:∀ i,i<xs.length→opSz (xs.getD i op0))(hL:(cellsAll xs).length≤100000000)(hT:Tabs w)(es:List Addr)(hE:ErrsL w es):Calls Tryz.prog 36 #[pw d 0] w fun e w'=>∃ A' c' ls,ls=lnOf xs∧e=.returned (.tuple #[.slice A' ls.length c',errV es (lnErr xs)])∧ls.length≤c'∧kLine.R 78 w' w.heap.size (OkFrom w.heap.size) (.slice A' ls.length c') ls∧Below w.heap.size w w':=by
 refine en Tryz.func36 rfl 19 [(0,pw d 0)] (fun R_ hR_=>?_)
 refine sg (xe0 2 [(0,pw d 0)] ?_)
 refine nl (sq (sg (xr0 1 [(6,pw d 0)] [] ?_)))
 refine xc 68 ent68 [pw d 0] (mdoc_any d xs _ hd hb hn hz hT es hE.o) ?_
 rintro e w1 ⟨rfl,b2⟩; refine⟨_,rfl,?_⟩
 rw[show decide (mBaseO xs=0)=isDoc xs from by rw[Bool.eq_iff_iff,decide_eq_true_eq]; exact doc_iff hb hB]
 by_cases c3:isDoc xs=true
 ·rw[show (isDoc xs:Bool)=true from by simpa using c3]
  refine xr0 1 [(8,bF)] [6,7] ?_
  refine nl (cf (sk (sg (xe0 1 [(11,pw d 0)] ?_))))
  refine xc 103 ent103 [pw d 0] (split_any d xs _ (hd.below b2) hb hn hz c3 hL (hT.below b2) es (hE.c.below b2)) ?_
  rintro e w10 ⟨A_4,c5,ls6,el7,rfl,l8,r9,b11⟩; refine⟨_,rfl,?_⟩
  refine xe0 5 [(4,aL A_4 ls6 c5),(5,.bool (lnEnds (cellsAll xs)))] ?_
  refine nl (sq (sg (xr0 1 [(15,.bool (lnEnds (cellsAll xs)))] [5] ?_)))
  by_cases c12:lnEnds (cellsAll xs)=true
  ·rw[show (lnEnds (cellsAll xs):Bool)=true from by simpa using c12]
   refine xr0 1 [(16,bF)] [15] ?_
   refine nl (cf (sk (sg (xe0 3 [(2,aL A_4 ls6 c5),(3,.nilIface)] ?_))))
   refine nl (X_ret (rj [.slice A_4 ls6.length c5,.nilIface] hR_ ?_))
   have he_:lnErr xs=0:=by unfold lnErr; rw[if_pos c3,if_pos c12]
   have hf_:lnOf xs=(lnRun (cellsAll xs)).1:=if_pos he_
   rw[he_]
   exact⟨A_4,c5,ls6,by rw[hf_]; exact el7,rfl,l8,Kd.R_low r9 (b2).size,(bt b2 b11)⟩
  rw[show (lnEnds (cellsAll xs):Bool)=false from by simpa using c12]
  refine xr0 1 [(16,bT)] [15] ?_
  refine nl (ct (sq (X_still (by kernel_rfl) (by kernel_rfl) (fun wd13 b14 h15=>?_))))
  refine xse 3 [(17,.load (ev es 14))] [(2,.slice none 0 0),(3,ev es 14)] [la 35 (⟨2,0,none⟩) (ev es 14) wd13] ⟨loads1 rfl (((bt (bt b2 b11) b14).cell (World.block_lt_of_cell? _ _ (hE.load 14 2 (by decide) (by decide) rfl))).trans (hE.load 14 2 (by decide) (by decide) rfl)),trivial⟩ ?_
  refine XS_nil ?_
  refine X_ret (rj [.slice none 0 0,ev es 14] hR_ ?_)
  have he_:lnErr xs=14:=by unfold lnErr; rw[if_pos c3,if_neg c12]
  have hf_:lnOf xs=[]:=if_neg (by rw[he_]; decide)
  rw[he_,errV_pos es 14 (by decide)]
  exact⟨none,0,[],hf_.symm,rfl,Nat.le_refl _,Kd.R_nil _ _ _ _ _,(bt (bt b2 b11) b14)⟩
 rw[show (isDoc xs:Bool)=false from by simpa using c3]
 refine xr0 1 [(8,bT)] [6,7] ?_
 refine nl (ct (sq (X_still (by kernel_rfl) (by kernel_rfl) (fun wd16 b17 h18=>?_))))
 refine xse 3 [(9,.load (ev es 9))] [(2,.slice none 0 0),(3,ev es 9)] [la 35 (⟨0,0,none⟩) (ev es 9) wd16] ⟨loads1 rfl (((bt b2 b17).cell (World.block_lt_of_cell? _ _ (hE.load 9 0 (by decide) (by decide) rfl))).trans (hE.load 9 0 (by decide) (by decide) rfl)),trivial⟩ ?_
 refine XS_nil ?_
 refine X_ret (rj [.slice none 0 0,ev es 9] hR_ ?_)
 have he_:lnErr xs=9:=if_neg c3
 have hf_:lnOf xs=[]:=if_neg (by rw[he_]; decide)
 rw[he_,errV_pos es 9 (by decide)]
 exact⟨none,0,[],hf_.symm,rfl,Nat.le_refl _,Kd.R_nil _ _ _ _ _,(bt b2 b17)⟩
theorem lat_any (d:Nat)(xs:List OpA)(p:Int)(w:World)(hd:DeltaC w d xs)(hb:badE xs=0)(hB:sB xs≤B.L)(hn:xs.length≤1100000)(hz:∀ i,i<xs.length→opSz (xs.getD i op0))(hL:(cellsAll xs).length≤100000000)(hT:Tabs w)(es:List Addr)(hE:ErrsL w es)(hp0: -9223372036854775808≤p∧p≤9223372036854775807):Rt 45 #[pw d 0,i6 p] w (.tuple #[i6 (lnAt xs p).1,i6 (lnAt xs p).2.1,errV es (lnAt xs p).2.2]):=by
 refine en Tryz.func45 rfl 38 [(0,pw d 0),(1,i6 p)] (fun R_ hR_=>?_)
 refine sg (xe0 3 [(0,pw d 0),(1,i6 p)] ?_)
 refine nl (sg (xr0 1 [(11,pw d 0)] [0] ?_))
 refine xc 36 ent36 [pw d 0] (lines_any d xs _ hd hb hB hn hz hL hT es hE) ?_
 rintro e w7 ⟨A1,c2,ls3,el4,rfl,l5,r6,b8⟩; refine⟨_,rfl,?_⟩
 have hbd_:∀ j,j<ls3.length→0≤(ls3.getD j line0).from_∧0≤(ls3.getD j line0).len∧(ls3.getD j line0).from_+(ls3.getD j line0).len<((cellsAll xs).length:Int):=by rw[el4]; exact fun j h_=>lnOf_bd xs h_
 have hll_:ls3.length≤(cellsAll xs).length:=by rw[el4]; exact lnOf_len xs
 refine xr0 5 [(7,aL A1 ls3 c2),(8,errV es (lnErr xs))] [11,12] ?_
 refine nl (sq (sg (xr0 1 [(15,errV es (lnErr xs))] [] ?_)))
 by_cases c9:(lnErr xs)=0
 ·rw[show errV es (lnErr xs)=.nilIface from by rw[c9]; rfl]
  refine xr0 1 [(8,.nilIface),(16,bF)] [15] ?_
  refine nl (cf (sk (sg (xr0 2 [(18,aL A1 ls3 c2),(19,i6 p)] [8,16] ?_))))
  refine xc 112 ent112 [.slice A1 ls3.length c2,i6 p] (lfind_any _ _ ls3 p _ (Kd.R_C r6) (by omega) hp0 (fun j_ h_=>by have h1_:=hbd_ j_ h_; omega)) ?_
  rintro e w10 ⟨rfl,b11⟩; refine⟨_,rfl,?_⟩
  have hfl_:=lnFind_le p ls3
  refine xe0 1 [(1,i6 p),(7,aL A1 ls3 c2),(9,i6 (lnFind p ls3:Int))] ?_
  refine nl (sq (sg (xr0 1 [(21,i6 p)] [] ?_)))
  by_cases c12:p<0
  ·refine xr1 7 [(22,.eq bT)] [(28,bT)] [21] (dT c12) ?_
   refine nl (ct (sq (X_still (by kernel_rfl) (by kernel_rfl) (fun wd13 b14 h15=>?_))))
   refine xse 4 [(29,.load (ev es 12))] [(4,i6 0),(5,i6 0),(6,ev es 12)] [la 35 (⟨1,0,none⟩) (ev es 12) wd13] ⟨loads1 rfl (((bt (bt b8 b11) b14).cell (World.block_lt_of_cell? _ _ (hE.load 12 1 (by decide) (by decide) rfl))).trans (hE.load 12 1 (by decide) (by decide) rfl)),trivial⟩ ?_
   refine XS_nil ?_
   refine X_ret (rj [i6 0,i6 0,ev es 12] hR_ ?_)
   rw[show lnAt xs p=(0,0,12)from by unfold lnAt; rw[if_neg (fun h_=>h_ c9),←el4,if_pos (by first|exact .inl (by omega)|exact .inr (by omega))]]
   rw[errV_pos es 12 (by decide)]
   exact⟨rfl,(bt (bt b8 b11) b14)⟩
  refine xr1 5 [(22,.eq bF)] [(23,bF),(24,i6 (lnFind p ls3:Int)),(26,i6 (ls3.length:Int))] [21] (dF c12) ?_
  by_cases c16:(lnFind p ls3:Int)=(ls3.length:Int)
  ·refine xr1 2 [(27,.eq bT)] [(28,bT)] [23,24,26] (bE c16) ?_
   refine nl (ct (sq (X_still (by kernel_rfl) (by kernel_rfl) (fun wd17 b18 h19=>?_))))
   refine xse 4 [(29,.load (ev es 12))] [(4,i6 0),(5,i6 0),(6,ev es 12)] [la 35 (⟨1,0,none⟩) (ev es 12) wd17] ⟨loads1 rfl (((bt (bt b8 b11) b18).cell (World.block_lt_of_cell? _ _ (hE.load 12 1 (by decide) (by decide) rfl))).trans (hE.load 12 1 (by decide) (by decide) rfl)),trivial⟩ ?_
   refine XS_nil ?_
   refine X_ret (rj [i6 0,i6 0,ev es 12] hR_ ?_)
   rw[show lnAt xs p=(0,0,12)from by unfold lnAt; rw[if_neg (fun h_=>h_ c9),←el4,if_pos (by first|exact .inl (by omega)|exact .inr (by omega))]]
   rw[errV_pos es 12 (by decide)]
   exact⟨rfl,(bt (bt b8 b11) b18)⟩
  refine xr1 2 [(27,.eq bF)] [(28,bF)] [23,24,26] (bN c16) ?_
  refine nl (cf (sk (sq (X_still (by kernel_rfl) (by kernel_rfl) (fun wd20 b21 h22=>?_)))))
  refine xse 4 [] [(30,i6 (lnFind p ls3:Int)),(31,i6 p),(32,aL A1 ls3 c2),(33,i6 (lnFind p ls3:Int))] [] trivial ?_
  have hj_:lnFind p ls3<ls3.length:=by omega
  have hbj_:0≤(ls3.getD (lnFind p ls3:Int).toNat line0).from_∧0≤(ls3.getD (lnFind p ls3:Int).toNat line0).len∧(ls3.getD (lnFind p ls3:Int).toNat line0).from_+(ls3.getD (lnFind p ls3:Int).toNat line0).len<((cellsAll xs).length:Int):=hbd_ _ hj_
  obtain⟨ad23,B26,c27,a24,c25,l28,C29⟩:=RX.Kd.atLine (Kd.R_C (Kd.R_below r6 (bt b11 b21))) (i:=(lnFind p ls3:Int)) (by omega) (by omega)
  replace c25:CellsAt wd20 (ad23.add ((lnFind p ls3:Int).toNat*4)) [i6 ((ls3.getD (lnFind p ls3:Int).toNat line0).from_),i6 ((ls3.getD (lnFind p ls3:Int).toNat line0).len),.slice B26 ((ls3.getD (lnFind p ls3:Int).toNat line0).attrs.length) c27,sT ((ls3.getD (lnFind p ls3:Int).toNat line0).text)]:=c25
  replace l28:(ls3.getD (lnFind p ls3:Int).toNat line0).attrs.length≤c27:=l28
  replace C29:kAttr.C wd20 B26 ((ls3.getD (lnFind p ls3:Int).toNat line0).attrs.length) (ls3.getD (lnFind p ls3:Int).toNat line0).attrs:=C29
  refine xse 7 [(34,.idx ad23),(36,.load (i6 ((ls3.getD (lnFind p ls3:Int).toNat line0).from_))),(37,.eq (i6 (p-((ls3.getD (lnFind p ls3:Int).toNat line0).from_))))] [(4,i6 (lnFind p ls3:Int)),(5,i6 (p-((ls3.getD (lnFind p ls3:Int).toNat line0).from_))),(6,.nilIface)] [A1=some ad23,(0:Int)≤(lnFind p ls3:Int),(lnFind p ls3:Int)<(ls3.length:Int),la 3 (ad23.add ((lnFind p ls3:Int).toNat*4)) (i6 ((ls3.getD (lnFind p ls3:Int).toNat line0).from_)) wd20,_] ⟨a24,(by omega),(by omega),loads1 rfl (elem_cell c25 0 _ rfl),w6 (p-((ls3.getD (lnFind p ls3:Int).toNat line0).from_)),trivial⟩ ?_
  refine XS_nil ?_
  refine X_ret (rj [i6 (lnFind p ls3:Int),i6 (p-((ls3.getD (lnFind p ls3:Int).toNat line0).from_)),.nilIface] hR_ ?_)
  rw[show lnAt xs p=((lnFind p ls3:Int),p-(ls3.getD (lnFind p ls3) line0).from_,0)from by unfold lnAt; rw[if_neg (fun h_=>h_ c9),←el4,if_neg (fun h_=>by rcases h_ with h_|h_<;>omega)]]
  exact⟨rfl,(bt (bt b8 b11) b21)⟩
 rw[errV_pos es (lnErr xs) (Nat.pos_of_ne_zero c9)]
 refine xr0 1 [(8,.iface 301 (.pointer (some (errAt es (lnErr xs))))),(16,bT)] [15] ?_
 refine nl (ct (sg (xe0 4 [(4,i6 0),(5,i6 0),(6,.iface 301 (.pointer (some (errAt es (lnErr xs)))))] ?_)))
 refine nl (X_ret (rj [i6 0,i6 0,.iface 301 (.pointer (some (errAt es (lnErr xs))))] hR_ ?_))
 rw[show lnAt xs p=(0,0,lnErr xs)from if_pos c9]
 rw[errV_pos es _ (Nat.pos_of_ne_zero c9)]
 exact⟨rfl,b8⟩
theorem lplace_any (d:Nat)(xs:List OpA)(i c:Int)(w:World)(hd:DeltaC w d xs)(hb:badE xs=0)(hB:sB xs≤B.L)(hn:xs.length≤1100000)(hz:∀ i,i<xs.length→opSz (xs.getD i op0))(hL:(cellsAll xs).length≤100000000)(hT:Tabs w)(es:List Addr)(hE:ErrsL w es):Rt 47 #[pw d 0,i6 i,i6 c] w (.tuple #[i6 (lnPlace xs i c).1,errV es (lnPlace xs i c).2]):=by
 refine en Tryz.func47 rfl 47 [(0,pw d 0),(1,i6 i),(2,i6 c)] (fun R_ hR_=>?_)
 refine sg (xe0 2 [(0,pw d 0),(1,i6 i),(2,i6 c)] ?_)
 refine nl (sg (xr0 1 [(11,pw d 0)] [0] ?_))
 refine xc 36 ent36 [pw d 0] (lines_any d xs _ hd hb hB hn hz hL hT es hE) ?_
 rintro e w7 ⟨A1,c2,ls3,el4,rfl,l5,r6,b8⟩; refine⟨_,rfl,?_⟩
 have hbd_:∀ j,j<ls3.length→0≤(ls3.getD j line0).from_∧0≤(ls3.getD j line0).len∧(ls3.getD j line0).from_+(ls3.getD j line0).len<((cellsAll xs).length:Int):=by rw[el4]; exact fun j h_=>lnOf_bd xs h_
 have hll_:ls3.length≤(cellsAll xs).length:=by rw[el4]; exact lnOf_len xs
 refine xr0 5 [(8,aL A1 ls3 c2),(9,errV es (lnErr xs))] [11,12] ?_
 refine nl (sq (sg (xr0 1 [(15,errV es (lnErr xs))] [] ?_)))
 by_cases c9:(lnErr xs)=0
 ·rw[show errV es (lnErr xs)=.nilIface from by rw[c9]; rfl]
  refine xr0 1 [(9,.nilIface),(16,bF)] [15] ?_
  refine nl (cf (sk (sq (sg (xr0 1 [(18,i6 i)] [9,16] ?_)))))
  by_cases c10:i<0
  ·refine xe1 20 [(19,.eq bT)] [(1,i6 i),(2,i6 c),(8,aL A1 ls3 c2),(38,bT)] (dT c10) ?_
   refine nl (ct (sq (X_still (by kernel_rfl) (by kernel_rfl) (fun wd11 b12 h13=>?_))))
   refine xse 3 [(39,.load (ev es 12))] [(6,i6 0),(7,ev es 12)] [la 35 (⟨1,0,none⟩) (ev es 12) wd11] ⟨loads1 rfl (((bt b8 b12).cell (World.block_lt_of_cell? _ _ (hE.load 12 1 (by decide) (by decide) rfl))).trans (hE.load 12 1 (by decide) (by decide) rfl)),trivial⟩ ?_
   refine XS_nil ?_
   refine X_ret (rj [i6 0,ev es 12] hR_ ?_)
   rw[show lnPlace xs i c=(0,12)from by unfold lnPlace; rw[if_neg (fun h_=>h_ c9),←el4,if_pos (by omega)]]
   rw[errV_pos es 12 (by decide)]
   exact⟨rfl,(bt b8 b12)⟩
  refine xe1 5 [(19,.eq bF)] [(1,i6 i),(2,i6 c),(8,aL A1 ls3 c2),(20,bF),(21,i6 i),(23,i6 (ls3.length:Int))] (dF c10) ?_
  by_cases c14:i≥(ls3.length:Int)
  ·refine xr1 15 [(24,.eq bT)] [(38,bT)] [20,21,23] (dT c14) ?_
   refine nl (ct (sq (X_still (by kernel_rfl) (by kernel_rfl) (fun wd15 b16 h17=>?_))))
   refine xse 3 [(39,.load (ev es 12))] [(6,i6 0),(7,ev es 12)] [la 35 (⟨1,0,none⟩) (ev es 12) wd15] ⟨loads1 rfl (((bt b8 b16).cell (World.block_lt_of_cell? _ _ (hE.load 12 1 (by decide) (by decide) rfl))).trans (hE.load 12 1 (by decide) (by decide) rfl)),trivial⟩ ?_
   refine XS_nil ?_
   refine X_ret (rj [i6 0,ev es 12] hR_ ?_)
   rw[show lnPlace xs i c=(0,12)from by unfold lnPlace; rw[if_neg (fun h_=>h_ c9),←el4,if_pos (by omega)]]
   rw[errV_pos es 12 (by decide)]
   exact⟨rfl,(bt b8 b16)⟩
  refine xr1 4 [(24,.eq bF)] [(26,bF),(27,i6 c)] [20,21,23] (dF c14) ?_
  by_cases c18:c<0
  ·refine xr1 11 [(28,.eq bT)] [(38,bT)] [26,27] (dT c18) ?_
   refine nl (ct (sq (X_still (by kernel_rfl) (by kernel_rfl) (fun wd19 b20 h21=>?_))))
   refine xse 3 [(39,.load (ev es 12))] [(6,i6 0),(7,ev es 12)] [la 35 (⟨1,0,none⟩) (ev es 12) wd19] ⟨loads1 rfl (((bt b8 b20).cell (World.block_lt_of_cell? _ _ (hE.load 12 1 (by decide) (by decide) rfl))).trans (hE.load 12 1 (by decide) (by decide) rfl)),trivial⟩ ?_
   refine XS_nil ?_
   refine X_ret (rj [i6 0,ev es 12] hR_ ?_)
   rw[show lnPlace xs i c=(0,12)from by unfold lnPlace; rw[if_neg (fun h_=>h_ c9),←el4,if_pos (by omega)]]
   rw[errV_pos es 12 (by decide)]
   exact⟨rfl,(bt b8 b20)⟩
  refine xr1 6 [(28,.eq bF)] [(30,bF),(31,i6 c),(32,aL A1 ls3 c2),(33,i6 i)] [26,27] (dF c18) ?_
  obtain⟨ad22,B25,c26,a23,c24,l27,C28⟩:=RX.Kd.atLine (Kd.R_C r6) (i:=i) (by omega) (by omega)
  replace c24:CellsAt w7 (ad22.add (i.toNat*4)) [i6 ((ls3.getD i.toNat line0).from_),i6 ((ls3.getD i.toNat line0).len),.slice B25 ((ls3.getD i.toNat line0).attrs.length) c26,sT ((ls3.getD i.toNat line0).text)]:=c24
  replace l27:(ls3.getD i.toNat line0).attrs.length≤c26:=l27
  replace C28:kAttr.C w7 B25 ((ls3.getD i.toNat line0).attrs.length) (ls3.getD i.toNat line0).attrs:=C28
  refine xr 3 [(34,.idx ad22),(36,.load (i6 ((ls3.getD i.toNat line0).len)))] [(36,i6 ((ls3.getD i.toNat line0).len))] [32,33] [A1=some ad22,(0:Int)≤i,i<(ls3.length:Int),la 3 ((ad22.add (i.toNat*4)).add 1) (i6 ((ls3.getD i.toNat line0).len)) w7] ⟨a23,(by omega),(by omega),loads1 rfl (elem_cell c24 1 _ rfl),trivial⟩ ?_
  by_cases c29:c>(ls3.getD i.toNat line0).len
  ·refine xr1 2 [(37,.eq bT)] [(38,bT)] [30,31,36] (dT c29) ?_
   refine nl (ct (sq (X_still (by kernel_rfl) (by kernel_rfl) (fun wd30 b31 h32=>?_))))
   refine xse 3 [(39,.load (ev es 12))] [(6,i6 0),(7,ev es 12)] [la 35 (⟨1,0,none⟩) (ev es 12) wd30] ⟨loads1 rfl (((bt b8 b31).cell (World.block_lt_of_cell? _ _ (hE.load 12 1 (by decide) (by decide) rfl))).trans (hE.load 12 1 (by decide) (by decide) rfl)),trivial⟩ ?_
   refine XS_nil ?_
   refine X_ret (rj [i6 0,ev es 12] hR_ ?_)
   rw[show lnPlace xs i c=(0,12)from by unfold lnPlace; rw[if_neg (fun h_=>h_ c9),←el4,if_pos (by omega)]]
   rw[errV_pos es 12 (by decide)]
   exact⟨rfl,(bt b8 b31)⟩
  refine xr1 2 [(37,.eq bF)] [(38,bF)] [30,31,36] (dF c29) ?_
  refine nl (cf (sk (sg (xr0 2 [(40,aL A1 ls3 c2),(41,i6 i)] [1,8,38] ?_))))
  have hbj_:=hbd_ i.toNat (by omega)
  obtain⟨ad33,B36,c37,a34,c35,l38,C39⟩:=RX.Kd.atLine (Kd.R_C r6) (i:=i) (by omega) (by omega)
  replace c35:CellsAt w7 (ad33.add (i.toNat*4)) [i6 ((ls3.getD i.toNat line0).from_),i6 ((ls3.getD i.toNat line0).len),.slice B36 ((ls3.getD i.toNat line0).attrs.length) c37,sT ((ls3.getD i.toNat line0).text)]:=c35
  replace l38:(ls3.getD i.toNat line0).attrs.length≤c37:=l38
  replace C39:kAttr.C w7 B36 ((ls3.getD i.toNat line0).attrs.length) (ls3.getD i.toNat line0).attrs:=C39
  refine xe 7 [(42,.idx ad33),(44,.load (i6 ((ls3.getD i.toNat line0).from_))),(46,.eq (i6 (((ls3.getD i.toNat line0).from_)+c)))] [(6,i6 (((ls3.getD i.toNat line0).from_)+c)),(7,.nilIface)] [A1=some ad33,(0:Int)≤i,i<(ls3.length:Int),la 3 (ad33.add (i.toNat*4)) (i6 ((ls3.getD i.toNat line0).from_)) w7,_] ⟨a34,(by omega),(by omega),loads1 rfl (elem_cell c35 0 _ rfl),w6 (((ls3.getD i.toNat line0).from_)+c),trivial⟩ ?_
  refine nl (X_ret (rj [i6 (((ls3.getD i.toNat line0).from_)+c),.nilIface] hR_ ?_))
  rw[show lnPlace xs i c=((ls3.getD i.toNat line0).from_+c,0)from by unfold lnPlace; rw[if_neg (fun h_=>h_ c9),←el4,if_neg (by omega)]]
  exact⟨rfl,b8⟩
 rw[errV_pos es (lnErr xs) (Nat.pos_of_ne_zero c9)]
 refine xr0 1 [(9,.iface 301 (.pointer (some (errAt es (lnErr xs))))),(16,bT)] [15] ?_
 refine nl (ct (sg (xe0 3 [(6,i6 0),(7,.iface 301 (.pointer (some (errAt es (lnErr xs)))))] ?_)))
 refine nl (X_ret (rj [i6 0,.iface 301 (.pointer (some (errAt es (lnErr xs))))] hR_ ?_))
 rw[show lnPlace xs i c=(0,lnErr xs)from if_pos c9]
 rw[errV_pos es _ (Nat.pos_of_ne_zero c9)]
 exact⟨rfl,b8⟩
set_option maxHeartbeats 1000000 in
theorem ltouched_any (d:Nat)(xs:List OpA)(f n:Int)(w:World)(hd:DeltaC w d xs)(hb:badE xs=0)(hB:sB xs≤B.L)(hn:xs.length≤1100000)(hz:∀ i,i<xs.length→opSz (xs.getD i op0))(hL:(cellsAll xs).length≤100000000)(hT:Tabs w)(es:List Addr)(hE:ErrsL w es)(hf0: -9223372036854775808≤f∧f≤9223372036854775807)(hn0: -9223372036854775808≤n∧n≤9223372036854775807):Rt 49 #[pw d 0,i6 f,i6 n] w (.tuple #[i6 (lnTouched xs f n).1,i6 (lnTouched xs f n).2.1,errV es (lnTouched xs f n).2.2]):=by
 have hat_:(lnAt xs f).2.2=0→isDoc xs=true∧0≤f∧f<((cellsAll xs).length:Int):=by
  intro h
  unfold lnAt at h
  by_cases h1:lnErr xs=0
  ·rw[if_neg (fun h_=>h_ h1)]at h
   by_cases h2:f<0∨lnFind f (lnOf xs)=(lnOf xs).length
   ·rw[if_pos h2]at h; cases h
   have h3:=lnFind_le f (lnOf xs)
   have h4:=lnFind_at f (lnOf xs) (by omega)
   have h5:=lnOf_bd xs (j:=lnFind f (lnOf xs)) (by omega)
   exact⟨(lnErr_doc h1).1,by omega,by omega⟩
  rw[if_pos h1]at h; exact absurd h h1
 refine en Tryz.func49 rfl 54 [(0,pw d 0),(1,i6 f),(2,i6 n)] (fun R_ hR_=>?_)
 refine sg (xe0 3 [(0,pw d 0),(1,i6 f),(2,i6 n)] ?_)
 refine nl (sg (xr0 2 [(15,pw d 0),(16,i6 f)] [] ?_))
 refine xc 45 ent45 [pw d 0,i6 f] (lat_any d xs f _ hd hb hB hn hz hL hT es hE (by omega)) ?_
 rintro e w1 ⟨rfl,b2⟩; refine⟨_,rfl,?_⟩
 refine xr0 7 [(9,i6 ((lnAt xs f).1)),(11,errV es ((lnAt xs f).2.2))] [15,16,17] ?_
 refine nl (sq (sg (xr0 1 [(21,errV es ((lnAt xs f).2.2))] [] ?_)))
 by_cases c3:(lnAt xs f).2.2=0
 ·rw[show errV es ((lnAt xs f).2.2)=.nilIface from by rw[c3]; rfl]
  refine xr0 1 [(11,.nilIface),(22,bF)] [21] ?_
  refine nl (cf (sk (sq (sg (xr0 1 [(24,i6 n)] [11,22] ?_)))))
  by_cases c_4:n<0
  ·refine xe1 9 [(25,.eq bT)] [(0,pw d 0),(1,i6 f),(2,i6 n),(9,i6 ((lnAt xs f).1)),(33,bT)] (dT c_4) ?_
   refine nl (ct (sq (X_still (by kernel_rfl) (by kernel_rfl) (fun wd5 b6 h7=>?_))))
   refine xse 4 [(34,.load (ev es 12))] [(6,i6 0),(7,i6 0),(8,ev es 12)] [la 35 (⟨1,0,none⟩) (ev es 12) wd5] ⟨loads1 rfl (((bt b2 b6).cell (World.block_lt_of_cell? _ _ (hE.load 12 1 (by decide) (by decide) rfl))).trans (hE.load 12 1 (by decide) (by decide) rfl)),trivial⟩ ?_
   refine XS_nil ?_
   refine X_ret (rj [i6 0,i6 0,ev es 12] hR_ ?_)
   rw[show lnTouched xs f n=(0,0,12)from by unfold lnTouched; rw[if_neg (fun h_=>h_ c3),if_pos (by omega)]]
   rw[errV_pos es 12 (by decide)]
   exact⟨rfl,(bt b2 b6)⟩
  refine xe1 4 [(25,.eq bF)] [(0,pw d 0),(1,i6 f),(2,i6 n),(9,i6 ((lnAt xs f).1)),(26,bF),(27,i6 n),(28,pw d 0)] (dF c_4) ?_
  refine xc 69 ent69 [pw d 0] (mres_any d xs _ (hd.below b2) hb hn hz (hT.below b2) es (hE.o.below b2)) ?_
  rintro e w_8 ⟨rfl,b9⟩; refine⟨_,rfl,?_⟩
  obtain⟨hdoc_,hf1_,hf2_⟩:=hat_ c3
  rw[doc_res hdoc_ (by omega)]
  refine xr1 2 [(31,.eq (i6 (((cellsAll xs).length:Int)-f)))] [(31,i6 (((cellsAll xs).length:Int)-f))] [28,29] (w6 (((cellsAll xs).length:Int)-f)) ?_
  by_cases c10:n>((cellsAll xs).length:Int)-f
  ·refine xr1 2 [(32,.eq bT)] [(33,bT)] [26,27,31] (dT c10) ?_
   refine nl (ct (sq (X_still (by kernel_rfl) (by kernel_rfl) (fun wd11 b12 h13=>?_))))
   refine xse 4 [(34,.load (ev es 12))] [(6,i6 0),(7,i6 0),(8,ev es 12)] [la 35 (⟨1,0,none⟩) (ev es 12) wd11] ⟨loads1 rfl (((bt (bt b2 b9) b12).cell (World.block_lt_of_cell? _ _ (hE.load 12 1 (by decide) (by decide) rfl))).trans (hE.load 12 1 (by decide) (by decide) rfl)),trivial⟩ ?_
   refine XS_nil ?_
   refine X_ret (rj [i6 0,i6 0,ev es 12] hR_ ?_)
   rw[show lnTouched xs f n=(0,0,12)from by unfold lnTouched; rw[if_neg (fun h_=>h_ c3),if_pos (by omega)]]
   rw[errV_pos es 12 (by decide)]
   exact⟨rfl,(bt (bt b2 b9) b12)⟩
  refine xr1 2 [(32,.eq bF)] [(33,bF)] [26,27,31] (dF c10) ?_
  refine nl (cf (sk (sq (sg (xr0 1 [(35,i6 n)] [33] ?_)))))
  by_cases c14:n=0
  ·refine xr1 1 [(36,.eq bT)] [(36,bT)] [35] (bE c14) ?_
   refine nl (ct (sg (xe0 5 [(6,i6 ((lnAt xs f).1)),(7,i6 ((lnAt xs f).1)),(8,.nilIface)] ?_)))
   refine nl (X_ret (rj [i6 ((lnAt xs f).1),i6 ((lnAt xs f).1),.nilIface] hR_ ?_))
   rw[show lnTouched xs f n=((lnAt xs f).1,(lnAt xs f).1,0)from by unfold lnTouched; rw[if_neg (fun h_=>h_ c3),if_neg (by omega),if_pos (by omega)]]
   exact⟨rfl,(bt b2 b9)⟩
  refine xr1 1 [(36,.eq bF)] [(36,bF)] [35] (bN c14) ?_
  refine nl (cf (sk (sg (xr 5 [(43,.eq (i6 (f+n))),(44,.eq (i6 ((f+n)-1)))] [(40,pw d 0),(44,i6 ((f+n)-1))] [0,1,2,36] [_,_] ⟨w6 (f+n),w6 ((f+n)-1),trivial⟩ ?_))))
  refine xc 45 ent45 [pw d 0,i6 ((f+n)-1)] (lat_any d xs ((f+n)-1) _ (hd.below (bt b2 b9)) hb hB hn hz hL (hT.below (bt b2 b9)) es (hE.below (bt b2 b9)) (by omega)) ?_
  rintro e w15 ⟨rfl,b16⟩; refine⟨_,rfl,?_⟩
  refine xe0 7 [(9,i6 ((lnAt xs f).1)),(11,errV es ((lnAt xs ((f+n)-1)).2.2)),(12,i6 ((lnAt xs ((f+n)-1)).1))] ?_
  refine nl (sq (sg (xr0 1 [(49,errV es ((lnAt xs ((f+n)-1)).2.2))] [] ?_)))
  by_cases c17:(lnAt xs ((f+n)-1)).2.2=0
  ·rw[show errV es ((lnAt xs ((f+n)-1)).2.2)=.nilIface from by rw[c17]; rfl]
   refine xr0 1 [(11,.nilIface),(50,bF)] [49] ?_
   refine nl (cf (sk (sg (xe0 5 [(6,i6 ((lnAt xs f).1)),(7,i6 ((lnAt xs ((f+n)-1)).1)),(8,.nilIface)] ?_))))
   refine nl (X_ret (rj [i6 ((lnAt xs f).1),i6 ((lnAt xs ((f+n)-1)).1),.nilIface] hR_ ?_))
   rw[show lnTouched xs f n=((lnAt xs f).1,(lnAt xs (f+n-1)).1,0)from by unfold lnTouched; rw[if_neg (fun h_=>h_ c3),if_neg (by omega),if_neg (by omega),if_neg (fun h_=>h_ c17)]]
   exact⟨rfl,(bt (bt b2 b9) b16)⟩
  rw[errV_pos es ((lnAt xs ((f+n)-1)).2.2) (Nat.pos_of_ne_zero c17)]
  refine xr0 1 [(11,.iface 301 (.pointer (some (errAt es ((lnAt xs ((f+n)-1)).2.2))))),(50,bT)] [49] ?_
  refine nl (ct (sg (xe0 4 [(6,i6 0),(7,i6 0),(8,.iface 301 (.pointer (some (errAt es ((lnAt xs ((f+n)-1)).2.2)))))] ?_)))
  refine nl (X_ret (rj [i6 0,i6 0,.iface 301 (.pointer (some (errAt es ((lnAt xs ((f+n)-1)).2.2))))] hR_ ?_))
  rw[show lnTouched xs f n=(0,0,(lnAt xs (f+n-1)).2.2)from by unfold lnTouched; rw[if_neg (fun h_=>h_ c3),if_neg (by omega),if_neg (by omega),if_pos c17]]
  rw[errV_pos es _ (Nat.pos_of_ne_zero c17)]
  exact⟨rfl,(bt (bt b2 b9) b16)⟩
 rw[errV_pos es ((lnAt xs f).2.2) (Nat.pos_of_ne_zero c3)]
 refine xr0 1 [(11,.iface 301 (.pointer (some (errAt es ((lnAt xs f).2.2))))),(22,bT)] [21] ?_
 refine nl (ct (sg (xe0 4 [(6,i6 0),(7,i6 0),(8,.iface 301 (.pointer (some (errAt es ((lnAt xs f).2.2)))))] ?_)))
 refine nl (X_ret (rj [i6 0,i6 0,.iface 301 (.pointer (some (errAt es ((lnAt xs f).2.2))))] hR_ ?_))
 rw[show lnTouched xs f n=(0,0,(lnAt xs f).2.2)from if_pos c3]
 rw[errV_pos es _ (Nat.pos_of_ne_zero c3)]
 exact⟨rfl,b2⟩
def TxI (w:World)(g4 hi:Nat)(pre:List ElA)(M:Nat→Prop)(W:World):Prop:=
 ∃ (tx:List Int) (A4:Option Addr) (c4:Nat),tx=pre.map (fun x:ElA=>letL x.2.1)∧RX.Blk W g4 150 #[aL A4 tx c4]∧(Kd.int .i32).R 21 W w.heap.size (OkFrom w.heap.size) (aL A4 tx c4) tx∧M=(fun k=>k=g4∨A4.map (·.block)=some k)∧(∀ k,A4.map (·.block)=some k→hi≤k)∧Below w.heap.size w W
theorem TxI.own {w:World}{g4 hi B:Nat}(h:w.heap.size≤B)(M:Nat→Prop):OwnFrom B (fun s W=>TxI w g4 hi s M W):=by
 rintro s W W' row ⟨tx,A4,c4,h1,h2,h3,h4,h5,h6⟩ hg hr
 exact⟨tx,A4,c4,h1,RX.ownFrom_blk (β:=Unit) (B:=B) (fun _=>g4) _ (fun _=>_) () W W' row h2 hg hr,RX.ownFrom_R (β:=Unit) (B:=B) (Kd.int .i32) _ w.heap.size (fun _=>_) (fun _=>tx) () W W' row h3 hg hr,h4,h5,RX.ownFrom_below' (β:=Unit) w h () W W' row h6 hg hr⟩
theorem TxI.im {w:World}{g4 lo hi:Nat}{pre:List ElA}{M:Nat→Prop}{W:World}(h:TxI w g4 hi pre M W)(h1:w.heap.size≤g4∧g4<lo)(h3:w.heap.size≤hi):∀ k,M k→¬DI w.heap.size lo hi k∧k<W.heap.size:=by
 obtain⟨tx,A4,c4,e1,e2,e3,rfl,e5,e6⟩:=h
 rintro k (rfl|hk)
 ·exact⟨fun h=>by rcases h with h|h<;>omega,e2.lt⟩
 have:=e5 k hk
 exact⟨fun h=>by rcases h with h|h<;>omega,Kd.R_lt e3 k hk⟩
set_option maxHeartbeats 1000000 in
theorem lntext_any (d:Nat)(xs:List OpA)(w:World)(hd:DeltaC w d xs)(hb:badE xs=0)(hB:sB xs≤B.L)(hn:xs.length≤1100000)(hz:∀ i,i<xs.length→opSz (xs.getD i op0))(hL:(cellsAll xs).length≤100000000)(hT:Tabs w)(es:List Addr)(hE:ErrsL w es):Rt 38 #[pw d 0] w (.tuple #[sT (if isDoc xs=true then lnText (cellsAll xs)else ByteArray.empty),errV es (if isDoc xs=true then 0 else 9)]):=by
 refine RX.enterM Tryz.func38 rfl 22 rfl [(0,pw d 0)] rfl (by kernel_rfl) (fun R_ hR_=>?_)
 refine RX.X_mark0 rfl ?_
 refine sg (xe0 2 [(0,pw d 0),(1000000,encD [])] ?_)
 refine nl (sq (sg (xr0 1 [(7,pw d 0)] [] ?_)))
 refine xc 68 ent68 [pw d 0] (mdoc_any d xs _ hd hb hn hz hT es hE.o) ?_
 rintro e w1 ⟨rfl,b2⟩; refine⟨_,rfl,?_⟩
 rw[show decide (mBaseO xs=0)=isDoc xs from by rw[Bool.eq_iff_iff,decide_eq_true_eq]; exact doc_iff hb hB]
 by_cases c3:isDoc xs=true
 ·rw[show (isDoc xs:Bool)=true from by simpa using c3]
  refine xr0 1 [(9,bF)] [7,8] ?_
  refine nl (cf (sk (sg (xw 1 [] [(4,pw w1.heap.size 0)] [9] (w1.alloc (.cells #[.slice none 0 0] 150)) [] trivial ?_))))
  obtain⟨w4,w8,b5,k6,z7⟩:=new_world w1 #[.slice none 0 0] 150
  rw[w8]
  refine nl (sq (sg (xr0 1 [(11,pw d 0)] [0] ?_)))
  refine xc 97 ent97 [pw d 0] (ceach_any d xs _ (hd.below (bt b2 b5)) hb hn hz) ?_
  rintro e w17 ⟨g9,A10,c11,zs12,ez13,rfl,hge14,k15,r16,b18⟩; refine⟨_,rfl,?_⟩
  have hdoc:=c3; rw[if_pos hdoc]at ez13; rw[ez13]at k15 r16
  have hr9_:kOp.R 102 w17 w4.heap.size (fun k_=>w4.heap.size≤k_∧k_<w17.heap.size) (aL A10 xs c11) xs:=Kd.R_mono (Kd.R_bound r16) (fun k_ hk_=>⟨hk_.2.1,hk_.2.2.1⟩)
  have hgl_:=k15.lt
  refine nl (X_block ?_)
  have hc4_:w.heap.size≤w1.heap.size∧w1.heap.size<w4.heap.size:=⟨(b2).size,Nat.lt_of_lt_of_le (Blk.lt k6) (Nat.le_refl _)⟩
  have hlh_:w4.heap.size≤w17.heap.size:=(b18).size
  have hwh_:w.heap.size≤w17.heap.size:=((bt (bt b2 b5) b18)).size
  have hDt_:∀ k_,(DI w.heap.size w4.heap.size w17.heap.size) k_→k_<w17.heap.size:=fun k_ h_=>by rcases h_ with h_|h_<;>omega
  refine X_rangeM (α:=ElA) (ι:=Nat) rfl ent159 (encs:=elV) (ceach_seq (DI w.heap.size w4.heap.size w17.heap.size) (fun k_=>w4.heap.size≤k_∧k_<w17.heap.size) w4.heap.size g9 A10 c11 xs w w17 hr9_ (fun k_ h_=>.inr h_) (fun k_ h_=>.inl h_) hDt_ (bt (bt b2 b5) b18) (by omega) (doc_ref hb hdoc) hz hT es hE.c k15 (by omega)) (Below.refl _ _) hDt_ (fun _=>rfl) (by kernel_rfl) (fun pre_ M_ W_=>TxI w w1.heap.size w17.heap.size pre_ M_ W_) (fun c_ pre_ W_=>False) (fun M_=>TxI.own ((bt (bt b2 b5) b18)).size M_) (fun _=>RX.ownFrom_pure _) (fun _ _ _ h_=>TxI.im h_ hc4_ hwh_) (fun k_=>k_=w1.heap.size∨(none:Option Addr).map (·.block)=some k_) ⟨[],none,0,rfl,(Blk.below k6 b18),Kd.R_nil _ _ _ _ _,rfl,(fun k_ h_=>by cases h_),(bt (bt b2 b5) b18)⟩ (fun x_ i_ W_=>RX.Blk W_ i_ 51 #[.int .i32 x_.2.1.rune,sT x_.2.1.kind,i6 x_.2.1.vk,i6 x_.2.1.vn,sT x_.2.1.vt,aL x_.2.2.1 x_.2.1.attrs x_.2.2.2]∧ElPx w17.heap.size x_ W_) (fun i_=>OwnFrom.and (ownFrom_blk (fun _=>i_) 51 (fun(x_:ElA)=>#[.int .i32 x_.2.1.rune,sT x_.2.1.kind,i6 x_.2.1.vk,i6 x_.2.1.vn,sT x_.2.1.vt,aL x_.2.2.1 x_.2.1.attrs x_.2.2.2])) ownFrom_px) (fun x_ i_=>[(4,pw w1.heap.size 0),(6,pw i_ 0)]) ?_ ?_ ?_ ?_
  ·rintro lp_ pre_ M_ x_ W_ hlp_ hws_ ⟨tx_,A4_,c4_,htx_,hk4_,hr4_,hM_,hA4_,hBw_⟩ hpx_ hlen_
   have hg4l_:=hk4_.lt
   have htl_:tx_.length=pre_.length:=by rw[htx_,List.length_map]
   refine XI_keep [4,11,12,13,14] [(4,pw w1.heap.size 0),(11,pw d 0),(12,.func (.func 159) #[] #[pw g9 0]),(13,i6 x_.1),(14,.agg #[.int .i32 x_.2.1.rune,sT x_.2.1.kind,i6 x_.2.1.vk,i6 x_.2.1.vn,sT x_.2.1.vt,aL x_.2.2.1 x_.2.1.attrs x_.2.2.2])] (by kernel_rfl) ?_
   refine XI_region (by kernel_rfl) (fun _ _ h_=>h_) ?_
   refine xwe 1 [] [(4,pw w1.heap.size 0),(6,pw W_.heap.size 0),(14,.agg #[.int .i32 x_.2.1.rune,sT x_.2.1.kind,i6 x_.2.1.vk,i6 x_.2.1.vn,sT x_.2.1.vt,aL x_.2.2.1 x_.2.1.attrs x_.2.2.2])] (W_.alloc (.cells #[.int .i32 0,s0,i6 0,i6 0,s0,.slice none 0 0] 51)) [] trivial ?_
   obtain⟨w19,w23,b20,k21,z22⟩:=new_world W_ #[.int .i32 0,s0,i6 0,i6 0,s0,.slice none 0 0] 51
   rw[w23]
   refine xst (.agg #[.int .i32 x_.2.1.rune,sT x_.2.1.kind,i6 x_.2.1.vk,i6 x_.2.1.vn,sT x_.2.1.vt,aL x_.2.2.1 x_.2.1.attrs x_.2.2.2]) k21 0 #[.int .i32 x_.2.1.rune,sT x_.2.1.kind,i6 x_.2.1.vk,i6 x_.2.1.vn,sT x_.2.1.vt,aL x_.2.2.1 x_.2.1.attrs x_.2.2.2] (fun w24 g25 k26 z27=>?_)
   have hne28:w1.heap.size≠W_.heap.size:=Blk.tne (Blk.below hk4_ b20) k21 rfl
   have k29:=Blk.other (Blk.below hk4_ b20) g25 hne28
   have r30:=Kd.R_off (Kd.R_below hr4_ b20) k21 (by decide) g25
   refine nl ?_
   have hDw_:∀ k_,(DI w.heap.size w4.heap.size w17.heap.size) k_→k_<W_.heap.size:=fun k_ h_=>by have:=hDt_ k_ h_; omega
   exact⟨W_.heap.size,by kernel_rfl,(KeepsFrom.trans (keeps_below b20) (keeps_store k21 g25)),KpM.below hDw_ ((bg b20 g25 (Nat.le_refl _)):Below W_.heap.size W_ w24),⟨tx_,A4_,c4_,htx_,k29,r30,hM_,hA4_,(bg (bt hBw_ b20) g25 (hBw_).size)⟩,k26,ElPx.below ((bg b20 g25 (Nat.le_refl _)):Below W_.heap.size W_ w24) hpx_⟩
  ·rintro lp_ pre_ M_ x_ i_ W_ hlp_ hws_ ⟨tx_,A4_,c4_,htx_,hk4_,hr4_,hM_,hA4_,hBw_⟩ ⟨hki_,hpx_⟩ hlen_
   have hg4l_:=hk4_.lt
   have htl_:tx_.length=pre_.length:=by rw[htx_,List.length_map]
   obtain⟨hx0_,hxl_,wb_,hwb_,hlk_,hra_⟩:=hpx_
   refine XI_block ?_
   refine XI_grow (by kernel_rfl) (fun _ _ h_=>h_) [4,5] 6 (tf 0 6) (by kernel_rfl) (by kernel_rfl) (by kernel_rfl) (fun wd31 b32 h33=>?_)
   refine XB_run (fuel':=4) (Below.refl _ _) [0,1] [(15,.load (aL A4_ tx_ c4_)),(16,.load (.agg #[.int .i32 x_.2.1.rune,sT x_.2.1.kind,i6 x_.2.1.vk,i6 x_.2.1.vn,sT x_.2.1.vt,aL x_.2.2.1 x_.2.1.attrs x_.2.2.2]))] [.slice A4_ tx_.length c4_,.agg #[.int .i32 x_.2.1.rune,sT x_.2.1.kind,i6 x_.2.1.vk,i6 x_.2.1.vn,sT x_.2.1.vt,aL x_.2.2.1 x_.2.1.attrs x_.2.2.2]] (tf 2 4) [(4,pw w1.heap.size 0),(15,aL A4_ tx_ c4_),(16,.agg #[.int .i32 x_.2.1.rune,sT x_.2.1.kind,i6 x_.2.1.vk,i6 x_.2.1.vn,sT x_.2.1.vt,aL x_.2.2.1 x_.2.1.attrs x_.2.2.2])] (fun w_=>[la 150 (⟨w1.heap.size,0,none⟩) (aL A4_ tx_ c4_) w_,la 51 (⟨i_,0,none⟩) (.agg #[.int .i32 x_.2.1.rune,sT x_.2.1.kind,i6 x_.2.1.vk,i6 x_.2.1.vn,sT x_.2.1.vt,aL x_.2.2.1 x_.2.1.attrs x_.2.2.2]) w_]) (fun w_ hC_=>⟨loads1 rfl (Blk.cell (Blk.below hk4_ (bt b32 hC_)) 0 _ rfl),loadsB rfl rfl (Blk.below hki_ (bt b32 hC_)) 0 ⟨by kernel_rfl,by kernel_rfl⟩,trivial⟩) ?_
   refine XB_mid (fuel':=3) 2 (tf 3 3) _ rfl (by kernel_rfl) (by kernel_rfl) rfl ?_
   refine xc 106 ent106 [.agg #[.int .i32 x_.2.1.rune,sT x_.2.1.kind,i6 x_.2.1.vk,i6 x_.2.1.vn,sT x_.2.1.vt,aL x_.2.2.1 x_.2.1.attrs x_.2.2.2]] (letter_any x_.2.1 _ _ _) ?_
   rintro e w34 ⟨rfl,b35⟩; refine⟨_,rfl,?_⟩
   refine nl ?_
   refine⟨b35,?_⟩
   refine XB_mid (fuel':=2) 3 (tf 4 2) _ rfl (by kernel_rfl) (by kernel_rfl) rfl ?_
   refine xw 1 [] [(18,.slice (some ⟨w34.heap.size,0,none⟩) 1 1)] [16,17] (w34.alloc (.cells #[.int .i32 (letL x_.2.1)] 21)) [] trivial ?_
   obtain⟨w36,w40,b37,k38,z39⟩:=new_world w34 #[.int .i32 (letL x_.2.1)] 21
   rw[w40]
   refine nl ?_
   refine⟨(bt b35 b37),?_⟩
   refine XB_act (fuel':=1) 4 (tf 5 1) _ rfl (by kernel_rfl) rfl (by kernel_rfl) rfl ?_
   rw[←w40]
   refine XL_append (Kd.int .i32) rfl rfl rfl w.heap.size 21 (.int .i32 0) 4 Tryz.underlying150 info21 rfl (by decide) (by omega) tx_ (letL x_.2.1) [.int .i32 (letL x_.2.1)] (fun _=>False) (by kernel_rfl) rfl (fun _ h=>h.elim) (Kd.R_below hr4_ (bt b32 b35)) ((bt (bt hBw_ b32) b35)).size (by first|omega|(simp; omega)) ?_
   intro A41 c42 w43 r44 c45 g46 l47 a48
   have hne50:=RX.Kd.R_blk_ne (Kd.R_below hr4_ (bt b32 b35)) (Blk.below hk4_ (bt b32 b35)) rfl
   have k51:=Blk.ne (Blk.below hk4_ (bt b32 b35)) g46 hne50
   refine nl (XB_act (fuel':=0) 5 (tf 6 0) _ rfl (by kernel_rfl) rfl (by kernel_rfl) rfl ?_)
   refine xst (aL A41 (tx_++[letL x_.2.1]) c42) k51 0 #[aL A41 (tx_++[letL x_.2.1]) c42] (fun w54 g55 k56 z57=>?_)
   have r61:=Kd.R_off r44 k51 (by decide) g55
   refine nl (XB_done (by kernel_rfl) ?_)
   have hDw_:∀ k_,(DI w.heap.size w4.heap.size w17.heap.size) k_→k_<W_.heap.size:=fun k_ h_=>by have:=hDt_ k_ h_; omega
   have hincl_:∀ k_,A41.map (·.block)=some k_→A4_.map (·.block)=some k_∨W_.heap.size≤k_:=fun k_ e_=>by rcases a48 with h_|⟨b_,h_,h2_⟩; (· rw[h_]at e_; exact .inl e_); (· rw[h_]at e_; injection e_ with e_; subst e_; exact .inr (Nat.le_trans (Nat.le_trans b32.size b35.size) h2_))
   have B62:Below w.heap.size w w54:=(bg (bgo (bt (bt hBw_ b32) b35) g46 l47 (Nat.le_refl _)) g55 (b2).size)
   exact⟨(KeepsFrom.trans (KeepsFrom.trans (KeepsFrom.trans (keeps_below b32) (keeps_below b35)) (keeps_row (Kd.R_below hr4_ (bt b32 b35)) g46)) (keeps_store k51 g55)),fun k_=>k_=w1.heap.size∨A41.map (·.block)=some k_,(KpM.trans (KpM.trans (KpM.trans (KpM.below (fun k_ h_=>Nat.lt_of_lt_of_le (hDw_ k_ h_) (Nat.le_refl _)) b32) (KpM.below (fun k_ h_=>Nat.lt_of_lt_of_le (hDw_ k_ h_) b32.size) b35)) (KpM.grown g46 (fun k_ e_=>⟨by rw[hM_]; exact .inr e_,fun h_=>by have h1_:=hA4_ k_ e_; rcases h_ with h_|h_<;>omega⟩) (fun k_ h_=>Nat.lt_of_lt_of_le (hDw_ k_ h_) (Nat.le_trans b32.size b35.size)))) (KpM.grown g55 (fun k_ e_=>by injection e_ with e_; subst e_; exact⟨by rw[hM_]; exact .inl rfl,fun h_=>by rcases h_ with h_|h_<;>omega⟩) (fun k_ h_=>Nat.lt_of_lt_of_le (hDw_ k_ h_) (Nat.le_trans (Nat.le_trans b32.size b35.size) g46.size)))),(fun k_ h_=>by rcases h_ with h_|h_; (· exact .inl (by rw[hM_]; exact .inl h_)); (· exact(hincl_ k_ h_).imp (fun h1_=>by rw[hM_]; exact .inr h1_) id)),⟨_,A41,c42,by rw[htx_,List.map_append]; rfl,k56,r61,rfl,(fun k_ h_=>by rcases hincl_ k_ h_ with h1_|h1_; (· exact hA4_ k_ h1_); (· omega)),B62⟩⟩
  ·rintro D64 pre_ M_ w63 D65 S66 ⟨tx_,A4_,c4_,htx_,hk4_,hr4_,hM_,hA4_,hBw_⟩ K67
   have hg4l_:=hk4_.lt
   have htl_:tx_.length=pre_.length:=by rw[htx_,List.length_map]
   have hall_:tx_=(cellsAll xs).map letL:=by rw[htx_,←EOK.all S66.1 S66.2,List.map_map]; rfl
   have hlo_:w17.heap.size≤w17.heap.size:=Nat.le_refl _
   have hds_:Defs (D64::[]) w63:=Defs.cons K67 (fun _ h_=>by cases h_)
   have hdge_:∀ D_∈D64::[],w17.heap.size≤D_:=fun D_ hm_=>(List.mem_cons.1 hm_).elim (fun e_=>by omega) (fun h_=>by cases h_)
   refine sg (xe1 1 [(20,.load (aL A4_ tx_ c4_))] [(20,aL A4_ tx_ c4_),(1000000,encD (D64::[]))] (lc 150 hk4_ 0) ?_)
   refine xr 3 [(21,.as (sT (runesBytes tx_)))] [(2,sT (runesBytes tx_)),(3,.nilIface)] [20] [RunsAs Tryz.prog [(20,aL A4_ tx_ c4_),(1000000,encD (D64::[]))] (Go.Op.convert 150 9 (Go.Operand.tmp 20)) 9 (sT (runesBytes tx_)) w63] ⟨runs_conv rfl (conv_runesC tx_ Tryz.underlying150 Tryz.underlying21 Tryz.underlying9 (Kd.R_C hr4_)),trivial⟩ ?_
   refine nl (X_ret (RX.retM_ok (P:=Tryz.prog) (fn:=Tryz.f38) (N:=22) (R:=R_) (ds:=(D64::[])) (dsOf_enc (by kernel_rfl)) (List.nodup_cons.2 ⟨fun h_=>(by cases h_),List.nodup_nil⟩) hds_ [sT (runesBytes tx_),.nilIface] (by kernel_rfl) (fun w_ ho_=>hR_ _ _ ?_)))
   rw[if_pos hdoc,if_pos hdoc,show lnText (cellsAll xs)=runesBytes tx_ from by unfold lnText; rw[hall_]]
   exact⟨rfl,Off.below ho_ hBw_ (fun D_ hm_=>Nat.le_trans ((bt (bt b2 b5) b18)).size (hdge_ D_ hm_))⟩
  rintro D69 c_ pre_ w68 D70 S71 hix_ K72
  exact hix_.elim
 rw[show (isDoc xs:Bool)=false from by simpa using c3]
 refine xr0 1 [(9,bT)] [7,8] ?_
 refine nl (ct (sq (X_still (by kernel_rfl) (by kernel_rfl) (fun wd73 b74 h75=>?_))))
 refine xsC 3 [(10,.load (ev es 9))] [(2,sT (⟨#[]⟩:ByteArray)),(3,ev es 9)] [0,9] [la 35 (⟨0,0,none⟩) (ev es 9) wd73] ⟨loads1 rfl (((bt b2 b74).cell (World.block_lt_of_cell? _ _ (hE.load 9 0 (by decide) (by decide) rfl))).trans (hE.load 9 0 (by decide) (by decide) rfl)),trivial⟩ ?_
 refine XS_nil ?_
 refine X_ret (RX.retM_ok (P:=Tryz.prog) (fn:=Tryz.f38) (N:=22) (R:=R_) (ds:=[]) (dsOf_enc (by kernel_rfl)) List.nodup_nil (Defs.below b74 (Defs.below b2 (fun _ h_=>by cases h_))) [sT (⟨#[]⟩:ByteArray),ev es 9] (by kernel_rfl) (fun w_ ho_=>hR_ _ _ ?_))
 rw[if_neg c3,if_neg c3,errV_pos es 9 (by decide)]
 exact⟨rfl,Off.below ho_ (bt b2 b74) (fun D_ hm_=>by cases hm_)⟩
end Go.Proofs.YtgphmfnkeolbcaaGreatDoor
