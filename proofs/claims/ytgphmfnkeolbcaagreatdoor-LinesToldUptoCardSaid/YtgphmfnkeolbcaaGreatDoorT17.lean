import Derived.Test.YtgphmfnkeolbcaaGreatDoorT16
import Derived.Test.YtgphmfnkeolbcaaGreatDoorIn
import Derived.Test.YtgphmfnkeolbcaaGreatDoorRow
import Derived.Test.YtgphmfnkeolbcaaGreatDoorMixP
/- vellumref06.Of. Conditions: sizes, the tables of utf8. -/
set_option linter.unusedVariables false
set_option linter.unusedSimpArgs false
set_option maxRecDepth 100000
namespace Go.Proofs.YtgphmfnkeolbcaaGreatDoor
open Go Go.RowKit Go.Proofs.YtgphmfnkeolbcaaGreatDoorW.PrintWords RX
theorem ent101 :Ent Tryz.prog 101:=ent_of Tryz.func101 (by kernel_rfl) rfl
set_option maxHeartbeats 4000000 in
theorem r6of_any (A:Option Addr)(c:Nat)(xs:List OpA)(W0 w:World)(hW:Below W0.heap.size W0 w)(hx:kOp.C W0 A xs.length xs)(hn:xs.length≤1048576)(hz:∀ i,i<xs.length→opSz (xs.getD i op0))(ht:B.txS xs≤50000000)(hT:Tabs w):
  Calls Tryz.prog 101 #[aL A xs c] w fun e w'=>Below w.heap.size w w'∧(((B.bOf xs).2=0∧∃ A1 c1,e=.returned (.tuple #[.slice A1 (B.can xs).length c1,i6 0,i6 0])∧MixK kOp op0 102 w.heap.size W0 w' A1 (B.can xs).length c1 (B.can xs))∨((B.bOf xs).2≠0∧e=.returned (.tuple #[.slice none 0 0,i6 ((B.bOf xs).1:Int),i6 ((B.bOf xs).2:Int)]))):=by
 have hpl:xs.length≤9223372036854775807:=hx.2.1
 have hL_:B.L=1099511627776:=rfl
 refine en Tryz.func101 rfl 49 [(0,aL A xs c)] (fun R_ hR_=>?_)
 refine sg (xe0 3 [(0,aL A xs c)] ?_)
 refine nl (sg (xr0 2 [(5,i6 0),(6,i6 0)] [] ?_))
 refine nl (sq (sg (xr0 3 [(11,aL A xs c),(12,i6 (xs.length:Int)),(13,i6 0)] [] ?_)))
 refine nl (bk (X_loop (ι:=Nat×Int×Int) (fun⟨i,b,r⟩=>[(0,aL A xs c),(5,i6 b),(6,i6 r),(11,aL A xs c),(12,i6 (xs.length:Int)),(13,i6 (i:Int))]) (fun⟨i,b,r⟩ wl=>i≤xs.length∧(∀ j,j<i→B.bE xs j=0)∧b=sB (xs.take i)∧r=sR (xs.take i)∧Below w.heap.size w wl) (fun⟨i,b,r⟩=>xs.length-i) (0,0,0) ⟨Nat.zero_le _,fun _ h_=>absurd h_ (Nat.not_lt_zero _),rfl,rfl,(Below.refl _ _)⟩ (by kernel_rfl) ?_))
 rintro⟨i,b,r⟩ wl ⟨hi,hb0,hbb,hrr,HB⟩
 have hup:=B.bE_upto hi hb0
 have hsB0:=sB_ok hup.1
 have hsR0:=sR_ok hup.1
 refine sq (X_region ?_)
 by_cases c_1:(i:Int)<(xs.length:Int)
 ·refine xr1 1 [(14,.eq bT)] [(14,bT)] [] (dT c_1) ?_
  refine nl (sq (ct (sk (sq (bk (sg (xr0 1 [(15,nv i)] [14] ?_)))))))
  obtain⟨ad2,B5,c6,a3,c4,l7,C8⟩:=Kd.atOp (Kd.C_below hx (bt hW HB)) (i:=(i:Int)) (by omega) (by omega)
  replace c4:CellsAt wl (ad2.add ((i:Int).toNat*7)) (o7L (xs.getD i op0) (aL B5 (xs.getD i op0).attrs c6)):=c4
  replace l7:(xs.getD i op0).attrs.length≤c6:=l7
  replace C8:kAttr.C wl B5 ((xs.getD i op0).attrs.length) (xs.getD i op0).attrs:=C8
  refine xw 3 [(16,.idx ad2),(17,.load (.agg (o7A (xs.getD i op0) (aL B5 (xs.getD i op0).attrs c6))))] [(8,pw wl.heap.size 0),(17,.agg (o7A (xs.getD i op0) (aL B5 (xs.getD i op0).attrs c6)))] [] (wl.alloc (.cells #[i6 0,s0,i6 0,i6 0,s0,i6 0,.slice none 0 0] 102)) [A=some ad2,(0:Int)≤(i:Int),(i:Int)<(xs.length:Int),la 102 (ad2.add ((i:Int).toNat*7)) (.agg (o7A (xs.getD i op0) (aL B5 (xs.getD i op0).attrs c6))) wl] ⟨a3,(by omega),(by omega),loadsE rfl rfl c4 0 ⟨by kernel_rfl,by kernel_rfl⟩,trivial⟩ ?_
  obtain⟨w9,w13,b10,k11,z12⟩:=new_world wl #[i6 0,s0,i6 0,i6 0,s0,i6 0,.slice none 0 0] 102
  rw[w13]
  refine xr0 1 [(7,nv i)] [15] ?_
  refine xst (.agg (o7A (xs.getD i op0) (aL B5 (xs.getD i op0).attrs c6))) k11 0 (o7A (xs.getD i op0) (aL B5 (xs.getD i op0).attrs c6)) (fun w14 g15 k16 z17=>?_)
  refine nl (sg (xr 1 [(18,.load (.agg (o7A (xs.getD i op0) (aL B5 (xs.getD i op0).attrs c6))))] [(18,.agg (o7A (xs.getD i op0) (aL B5 (xs.getD i op0).attrs c6)))] [17] [la 102 (⟨wl.heap.size,0,none⟩) (.agg (o7A (xs.getD i op0) (aL B5 (xs.getD i op0).attrs c6))) w14] ⟨loadsB rfl rfl k16 0 ⟨by kernel_rfl,by kernel_rfl⟩,trivial⟩ ?_))
  have hszi:=hz i (by omega)
  have hsci:=U.sc_le (xs.getD i op0).text
  have hszt:=hszi.1
  have hol:opLen (xs.getD i op0)=(if (xs.getD i op0).kind=1 then ((U.sc (xs.getD i op0).text).length:Int)else if (xs.getD i op0).kind=2 then 1 else (xs.getD i op0).count):=rfl
  have hob:opB (xs.getD i op0)=(if (xs.getD i op0).kind=3∨(xs.getD i op0).kind=4 then opLen (xs.getD i op0)else 0):=rfl
  have hor:opR (xs.getD i op0)=(if (xs.getD i op0).kind=4 then 0 else opLen (xs.getD i op0)):=rfl
  have hst1:=B.sB_take (show i<xs.length by omega)
  have hst2:=B.sR_take (show i<xs.length by omega)
  refine xc 163 ent163 [.agg (o7A (xs.getD i op0) (aL B5 (xs.getD i op0).attrs c6))] (r5check_any (xs.getD i op0) _ _ _ (Kd.C_below C8 (bg b10 g15 (Nat.le_refl _))) hszi (hT.below (bg (bt HB b10) g15 (HB).size))) ?_
  rintro e w18 ⟨rfl,b19⟩; refine⟨_,rfl,?_⟩
  refine xe0 1 [(0,aL A xs c),(5,i6 b),(6,i6 r),(7,nv i),(8,pw wl.heap.size 0),(9,i6 (pErr (xs.getD i op0):Int)),(11,aL A xs c),(12,i6 (xs.length:Int)),(13,nv i)] ?_
  refine nl (sq (sg (xr0 1 [(20,i6 (pErr (xs.getD i op0):Int))] [] ?_)))
  by_cases c20:(pErr (xs.getD i op0):Int)=0
  ·have hpe:pErr (xs.getD i op0)=0:=by omega
   have hki:=kind_of_ok hpe
   have hcni:=fun hk_=>count_of_ok hpe hk_
   have hol0:=opLen_ok hpe
   have hol1:opLen (xs.getD i op0)≤1099511627776:=by rw[hol]; split; (· omega); (· split; (· omega); (· exact(hcni (by omega)).2))
   refine xr1 1 [(21,.eq bF)] [(21,bF)] [20] (nF c20) ?_
   refine nl (cf (sk (sg (xr 1 [(24,.load (.agg (o7A (xs.getD i op0) (aL B5 (xs.getD i op0).attrs c6))))] [(24,.agg (o7A (xs.getD i op0) (aL B5 (xs.getD i op0).attrs c6)))] [9,21] [la 102 (⟨wl.heap.size,0,none⟩) (.agg (o7A (xs.getD i op0) (aL B5 (xs.getD i op0).attrs c6))) w18] ⟨loadsB rfl rfl (Blk.below k16 b19) 0 ⟨by kernel_rfl,by kernel_rfl⟩,trivial⟩ ?_))))
   have B21:Below wl.heap.size wl w18:=(bt (bg b10 g15 (Nat.le_refl _)) b19)
   refine xc 115 ent115 [.agg (o7A (xs.getD i op0) (aL B5 (xs.getD i op0).attrs c6))] (r6len_any (xs.getD i op0) _ _ _ (Kd.C_below C8 B21) (ok_utf hpe) hszi) ?_
   rintro e w22 ⟨rfl,b23⟩; refine⟨_,rfl,?_⟩
   refine xr 2 [(26,.eq (i6 (min (opLen (xs.getD i op0)) 1099511627777)))] [(10,i6 (min (opLen (xs.getD i op0)) 1099511627777))] [24,25] [i6 (if 1099511627777<opLen (xs.getD i op0)then 1099511627777 else opLen (xs.getD i op0))=i6 (min (opLen (xs.getD i op0)) 1099511627777)] ⟨congrArg (Value.int .i64) (min_eq _ _),trivial⟩ ?_
   refine nl (sq (sg (xr 1 [(27,.load (.agg (o7A (xs.getD i op0) (aL B5 (xs.getD i op0).attrs c6))))] [(27,.agg (o7A (xs.getD i op0) (aL B5 (xs.getD i op0).attrs c6)))] [] [la 102 (⟨wl.heap.size,0,none⟩) (.agg (o7A (xs.getD i op0) (aL B5 (xs.getD i op0).attrs c6))) w22] ⟨loadsB rfl rfl (Blk.below k16 (bt b19 b23)) 0 ⟨by kernel_rfl,by kernel_rfl⟩,trivial⟩ ?_)))
   refine xc 100 ent100 [.agg (o7A (xs.getD i op0) (aL B5 (xs.getD i op0).attrs c6))] (r6ins_any (xs.getD i op0) _ _ _ (Kd.C_below C8 (bt B21 b23))) ?_
   rintro e w24 ⟨rfl,b25⟩; refine⟨_,rfl,?_⟩
   by_cases c26:decide (insO (xs.getD i op0))=true
   ·have hin:((xs.getD i op0).kind=1∨(xs.getD i op0).kind=2):=of_decide_eq_true c26
    rw[show (decide (insO (xs.getD i op0)):Bool)=true from by simpa using c26]
    refine xe0 1 [(0,aL A xs c),(5,i6 b),(6,i6 r),(7,nv i),(8,pw wl.heap.size 0),(10,i6 (min (opLen (xs.getD i op0)) 1099511627777)),(11,aL A xs c),(12,i6 (xs.length:Int)),(13,nv i),(29,bF)] ?_
    refine nl (cf (sk (sq (sg (xr1 2 [(34,.load (i6 ((xs.getD i op0).kind)))] [(34,i6 ((xs.getD i op0).kind))] [8,29] (lc 3 (Blk.below k16 (bt (bt b19 b23) b25)) 0) ?_)))))
    by_cases c27:(xs.getD i op0).kind=4
    ·refine xr1 1 [(35,.eq bF)] [(35,bF)] [34] (nF c27) ?_
     refine nl (cf (sk (sg (xr0 1 [(39,i6 b)] [10,35] ?_))))
     by_cases c28:b>1099511627776
     ·refine xr1 5 [(40,.eq bT)] [(44,bT)] [39] (dT c28) ?_
      refine nl (ct (sg (xe0 4 [(2,.slice none 0 0),(3,nv i),(4,i6 11)] ?_)))
      refine nl (X_ret (rj [.slice none 0 0,i6 (i:Int),i6 11] hR_ ?_))
      have B29:Below w.heap.size w w24:=(bt (bt (bt (bg (bt HB b10) g15 (HB).size) b19) b23) b25)
      have hbi:B.bE xs i=11:=by unfold B.bE; rw[if_neg (by omega),if_pos (by omega)]
      have hbn:B.bE xs i≠0:=by omega
      have hfo:B.bOf xs=(i,B.bE xs i):=B.first_at hb0 hbn (show i<xs.length by omega)
      rw[hfo,hbi]
      exact⟨B29,.inr ⟨by (try dsimp only); omega,rfl⟩⟩
     refine xr1 3 [(40,.eq bF)] [(41,bF),(42,i6 r)] [39] (dF c28) ?_
     by_cases c30:r>1099511627776
     ·refine xr1 2 [(43,.eq bT)] [(44,bT)] [41,42] (dT c30) ?_
      refine nl (ct (sg (xe0 4 [(2,.slice none 0 0),(3,nv i),(4,i6 11)] ?_)))
      refine nl (X_ret (rj [.slice none 0 0,i6 (i:Int),i6 11] hR_ ?_))
      have B31:Below w.heap.size w w24:=(bt (bt (bt (bg (bt HB b10) g15 (HB).size) b19) b23) b25)
      have hbi:B.bE xs i=11:=by unfold B.bE; rw[if_neg (by omega),if_pos (by omega)]
      have hbn:B.bE xs i≠0:=by omega
      have hfo:B.bOf xs=(i,B.bE xs i):=B.first_at hb0 hbn (show i<xs.length by omega)
      rw[hfo,hbi]
      exact⟨B31,.inr ⟨by (try dsimp only); omega,rfl⟩⟩
     refine xr1 2 [(43,.eq bF)] [(44,bF)] [41,42] (dF c30) ?_
     refine nl (cf (sk (rg (xe1 2 [(46,.eq (i6 ((i:Int)+1)))] [(0,aL A xs c),(5,i6 b),(6,i6 r),(11,aL A xs c),(12,i6 (xs.length:Int)),(13,i6 ((i:Int)+1))] (w6 ((i:Int)+1)) ?_))))
     refine nl ?_
     have B32:Below w.heap.size w w24:=(bt (bt (bt (bg (bt HB b10) g15 (HB).size) b19) b23) b25)
     refine⟨(i+1,b,r),by kernel_rfl,?_,?_⟩
     ·have hbi:B.bE xs i=0:=by unfold B.bE; rw[if_neg (by omega),if_neg (by omega)]
      exact⟨by omega,fun j_ hj_=>(by by_cases h_:j_<i; (· exact hb0 j_ h_); (· obtain rfl:j_=i:=(by omega); exact hbi)),by omega,by omega,B32⟩
     (try dsimp only); omega
    refine xr1 1 [(35,.eq bT)] [(35,bT)] [34] (nT c27) ?_
    refine nl (ct (rg (xr1 4 [(38,.eq (i6 (r+(min (opLen (xs.getD i op0)) 1099511627777))))] [(6,i6 (r+(min (opLen (xs.getD i op0)) 1099511627777)))] [10,35] (w6 (r+(min (opLen (xs.getD i op0)) 1099511627777))) ?_)))
    refine nl (sg (xr0 1 [(39,i6 b)] [] ?_))
    by_cases c33:b>1099511627776
    ·refine xr1 5 [(40,.eq bT)] [(44,bT)] [39] (dT c33) ?_
     refine nl (ct (sg (xe0 4 [(2,.slice none 0 0),(3,nv i),(4,i6 11)] ?_)))
     refine nl (X_ret (rj [.slice none 0 0,i6 (i:Int),i6 11] hR_ ?_))
     have B34:Below w.heap.size w w24:=(bt (bt (bt (bg (bt HB b10) g15 (HB).size) b19) b23) b25)
     have hbi:B.bE xs i=11:=by unfold B.bE; rw[if_neg (by omega),if_pos (by omega)]
     have hbn:B.bE xs i≠0:=by omega
     have hfo:B.bOf xs=(i,B.bE xs i):=B.first_at hb0 hbn (show i<xs.length by omega)
     rw[hfo,hbi]
     exact⟨B34,.inr ⟨by (try dsimp only); omega,rfl⟩⟩
    refine xr1 3 [(40,.eq bF)] [(41,bF),(42,i6 (r+(min (opLen (xs.getD i op0)) 1099511627777)))] [39] (dF c33) ?_
    by_cases c35:r+(min (opLen (xs.getD i op0)) 1099511627777)>1099511627776
    ·refine xe1 2 [(43,.eq bT)] [(0,aL A xs c),(5,i6 b),(6,i6 (r+(min (opLen (xs.getD i op0)) 1099511627777))),(7,nv i),(11,aL A xs c),(12,i6 (xs.length:Int)),(13,nv i),(44,bT)] (dT c35) ?_
     refine nl (ct (sg (xe0 4 [(2,.slice none 0 0),(3,nv i),(4,i6 11)] ?_)))
     refine nl (X_ret (rj [.slice none 0 0,i6 (i:Int),i6 11] hR_ ?_))
     have B36:Below w.heap.size w w24:=(bt (bt (bt (bg (bt HB b10) g15 (HB).size) b19) b23) b25)
     have hbi:B.bE xs i=11:=by unfold B.bE; rw[if_neg (by omega),if_pos (by omega)]
     have hbn:B.bE xs i≠0:=by omega
     have hfo:B.bOf xs=(i,B.bE xs i):=B.first_at hb0 hbn (show i<xs.length by omega)
     rw[hfo,hbi]
     exact⟨B36,.inr ⟨by (try dsimp only); omega,rfl⟩⟩
    refine xe1 2 [(43,.eq bF)] [(0,aL A xs c),(5,i6 b),(6,i6 (r+(min (opLen (xs.getD i op0)) 1099511627777))),(7,nv i),(11,aL A xs c),(12,i6 (xs.length:Int)),(13,nv i),(44,bF)] (dF c35) ?_
    refine nl (cf (sk (rg (xr1 2 [(46,.eq (i6 ((i:Int)+1)))] [(13,i6 ((i:Int)+1))] [7,44] (w6 ((i:Int)+1)) ?_))))
    refine nl ?_
    have B37:Below w.heap.size w w24:=(bt (bt (bt (bg (bt HB b10) g15 (HB).size) b19) b23) b25)
    refine⟨(i+1,b,r+(min (opLen (xs.getD i op0)) 1099511627777)),by kernel_rfl,?_,?_⟩
    ·have hbi:B.bE xs i=0:=by unfold B.bE; rw[if_neg (by omega),if_neg (by omega)]
     exact⟨by omega,fun j_ hj_=>(by by_cases h_:j_<i; (· exact hb0 j_ h_); (· obtain rfl:j_=i:=(by omega); exact hbi)),by omega,by omega,B37⟩
    (try dsimp only); omega
   have hin:¬((xs.getD i op0).kind=1∨(xs.getD i op0).kind=2):=(of_decide_eq_false (Bool.eq_false_iff.2 c26))
   rw[show (decide (insO (xs.getD i op0)):Bool)=false from by simpa using c26]
   refine xe0 1 [(0,aL A xs c),(5,i6 b),(6,i6 r),(7,nv i),(8,pw wl.heap.size 0),(10,i6 (min (opLen (xs.getD i op0)) 1099511627777)),(11,aL A xs c),(12,i6 (xs.length:Int)),(13,nv i),(29,bT)] ?_
   refine nl (ct (rg (xr1 4 [(32,.eq (i6 (b+(min (opLen (xs.getD i op0)) 1099511627777))))] [(5,i6 (b+(min (opLen (xs.getD i op0)) 1099511627777)))] [29] (w6 (b+(min (opLen (xs.getD i op0)) 1099511627777))) ?_)))
   refine nl (sq (sg (xr1 2 [(34,.load (i6 ((xs.getD i op0).kind)))] [(34,i6 ((xs.getD i op0).kind))] [8] (lc 3 (Blk.below k16 (bt (bt b19 b23) b25)) 0) ?_)))
   by_cases c38:(xs.getD i op0).kind=4
   ·refine xr1 1 [(35,.eq bF)] [(35,bF)] [34] (nF c38) ?_
    refine nl (cf (sk (sg (xr0 1 [(39,i6 (b+(min (opLen (xs.getD i op0)) 1099511627777)))] [10,35] ?_))))
    by_cases c39:b+(min (opLen (xs.getD i op0)) 1099511627777)>1099511627776
    ·refine xr1 5 [(40,.eq bT)] [(44,bT)] [39] (dT c39) ?_
     refine nl (ct (sg (xe0 4 [(2,.slice none 0 0),(3,nv i),(4,i6 11)] ?_)))
     refine nl (X_ret (rj [.slice none 0 0,i6 (i:Int),i6 11] hR_ ?_))
     have B40:Below w.heap.size w w24:=(bt (bt (bt (bg (bt HB b10) g15 (HB).size) b19) b23) b25)
     have hbi:B.bE xs i=11:=by unfold B.bE; rw[if_neg (by omega),if_pos (by omega)]
     have hbn:B.bE xs i≠0:=by omega
     have hfo:B.bOf xs=(i,B.bE xs i):=B.first_at hb0 hbn (show i<xs.length by omega)
     rw[hfo,hbi]
     exact⟨B40,.inr ⟨by (try dsimp only); omega,rfl⟩⟩
    refine xr1 3 [(40,.eq bF)] [(41,bF),(42,i6 r)] [39] (dF c39) ?_
    by_cases c41:r>1099511627776
    ·refine xe1 2 [(43,.eq bT)] [(0,aL A xs c),(5,i6 (b+(min (opLen (xs.getD i op0)) 1099511627777))),(6,i6 r),(7,nv i),(11,aL A xs c),(12,i6 (xs.length:Int)),(13,nv i),(44,bT)] (dT c41) ?_
     refine nl (ct (sg (xe0 4 [(2,.slice none 0 0),(3,nv i),(4,i6 11)] ?_)))
     refine nl (X_ret (rj [.slice none 0 0,i6 (i:Int),i6 11] hR_ ?_))
     have B42:Below w.heap.size w w24:=(bt (bt (bt (bg (bt HB b10) g15 (HB).size) b19) b23) b25)
     have hbi:B.bE xs i=11:=by unfold B.bE; rw[if_neg (by omega),if_pos (by omega)]
     have hbn:B.bE xs i≠0:=by omega
     have hfo:B.bOf xs=(i,B.bE xs i):=B.first_at hb0 hbn (show i<xs.length by omega)
     rw[hfo,hbi]
     exact⟨B42,.inr ⟨by (try dsimp only); omega,rfl⟩⟩
    refine xe1 2 [(43,.eq bF)] [(0,aL A xs c),(5,i6 (b+(min (opLen (xs.getD i op0)) 1099511627777))),(6,i6 r),(7,nv i),(11,aL A xs c),(12,i6 (xs.length:Int)),(13,nv i),(44,bF)] (dF c41) ?_
    refine nl (cf (sk (rg (xr1 2 [(46,.eq (i6 ((i:Int)+1)))] [(13,i6 ((i:Int)+1))] [7,44] (w6 ((i:Int)+1)) ?_))))
    refine nl ?_
    have B43:Below w.heap.size w w24:=(bt (bt (bt (bg (bt HB b10) g15 (HB).size) b19) b23) b25)
    refine⟨(i+1,b+(min (opLen (xs.getD i op0)) 1099511627777),r),by kernel_rfl,?_,?_⟩
    ·have hbi:B.bE xs i=0:=by unfold B.bE; rw[if_neg (by omega),if_neg (by omega)]
     exact⟨by omega,fun j_ hj_=>(by by_cases h_:j_<i; (· exact hb0 j_ h_); (· obtain rfl:j_=i:=(by omega); exact hbi)),by omega,by omega,B43⟩
    (try dsimp only); omega
   refine xr1 1 [(35,.eq bT)] [(35,bT)] [34] (nT c38) ?_
   refine nl (ct (rg (xr1 4 [(38,.eq (i6 (r+(min (opLen (xs.getD i op0)) 1099511627777))))] [(6,i6 (r+(min (opLen (xs.getD i op0)) 1099511627777)))] [10,35] (w6 (r+(min (opLen (xs.getD i op0)) 1099511627777))) ?_)))
   refine nl (sg (xr0 1 [(39,i6 (b+(min (opLen (xs.getD i op0)) 1099511627777)))] [] ?_))
   by_cases c44:b+(min (opLen (xs.getD i op0)) 1099511627777)>1099511627776
   ·refine xe1 5 [(40,.eq bT)] [(0,aL A xs c),(5,i6 (b+(min (opLen (xs.getD i op0)) 1099511627777))),(6,i6 (r+(min (opLen (xs.getD i op0)) 1099511627777))),(7,nv i),(11,aL A xs c),(12,i6 (xs.length:Int)),(13,nv i),(44,bT)] (dT c44) ?_
    refine nl (ct (sg (xe0 4 [(2,.slice none 0 0),(3,nv i),(4,i6 11)] ?_)))
    refine nl (X_ret (rj [.slice none 0 0,i6 (i:Int),i6 11] hR_ ?_))
    have B45:Below w.heap.size w w24:=(bt (bt (bt (bg (bt HB b10) g15 (HB).size) b19) b23) b25)
    have hbi:B.bE xs i=11:=by unfold B.bE; rw[if_neg (by omega),if_pos (by omega)]
    have hbn:B.bE xs i≠0:=by omega
    have hfo:B.bOf xs=(i,B.bE xs i):=B.first_at hb0 hbn (show i<xs.length by omega)
    rw[hfo,hbi]
    exact⟨B45,.inr ⟨by (try dsimp only); omega,rfl⟩⟩
   refine xe1 3 [(40,.eq bF)] [(0,aL A xs c),(5,i6 (b+(min (opLen (xs.getD i op0)) 1099511627777))),(6,i6 (r+(min (opLen (xs.getD i op0)) 1099511627777))),(7,nv i),(11,aL A xs c),(12,i6 (xs.length:Int)),(13,nv i),(41,bF),(42,i6 (r+(min (opLen (xs.getD i op0)) 1099511627777)))] (dF c44) ?_
   by_cases c46:r+(min (opLen (xs.getD i op0)) 1099511627777)>1099511627776
   ·refine xr1 2 [(43,.eq bT)] [(44,bT)] [41,42] (dT c46) ?_
    refine nl (ct (sg (xe0 4 [(2,.slice none 0 0),(3,nv i),(4,i6 11)] ?_)))
    refine nl (X_ret (rj [.slice none 0 0,i6 (i:Int),i6 11] hR_ ?_))
    have B47:Below w.heap.size w w24:=(bt (bt (bt (bg (bt HB b10) g15 (HB).size) b19) b23) b25)
    have hbi:B.bE xs i=11:=by unfold B.bE; rw[if_neg (by omega),if_pos (by omega)]
    have hbn:B.bE xs i≠0:=by omega
    have hfo:B.bOf xs=(i,B.bE xs i):=B.first_at hb0 hbn (show i<xs.length by omega)
    rw[hfo,hbi]
    exact⟨B47,.inr ⟨by (try dsimp only); omega,rfl⟩⟩
   refine xr1 2 [(43,.eq bF)] [(44,bF)] [41,42] (dF c46) ?_
   refine nl (cf (sk (rg (xr1 2 [(46,.eq (i6 ((i:Int)+1)))] [(13,i6 ((i:Int)+1))] [7,44] (w6 ((i:Int)+1)) ?_))))
   refine nl ?_
   have B48:Below w.heap.size w w24:=(bt (bt (bt (bg (bt HB b10) g15 (HB).size) b19) b23) b25)
   refine⟨(i+1,b+(min (opLen (xs.getD i op0)) 1099511627777),r+(min (opLen (xs.getD i op0)) 1099511627777)),by kernel_rfl,?_,?_⟩
   ·have hbi:B.bE xs i=0:=by unfold B.bE; rw[if_neg (by omega),if_neg (by omega)]
    exact⟨by omega,fun j_ hj_=>(by by_cases h_:j_<i; (· exact hb0 j_ h_); (· obtain rfl:j_=i:=(by omega); exact hbi)),by omega,by omega,B48⟩
   (try dsimp only); omega
  refine xr1 1 [(21,.eq bT)] [(21,bT)] [20] (nT c20) ?_
  refine nl (ct (sg (xe0 5 [(2,.slice none 0 0),(3,nv i),(4,i6 (pErr (xs.getD i op0):Int))] ?_)))
  refine nl (X_ret (rj [.slice none 0 0,i6 (i:Int),i6 (pErr (xs.getD i op0):Int)] hR_ ?_))
  have B49:Below w.heap.size w w18:=(bt (bg (bt HB b10) g15 (HB).size) b19)
  have hbi:B.bE xs i=pErr (xs.getD i op0):=by unfold B.bE; rw[if_pos (by omega)]
  have hbn:B.bE xs i≠0:=by omega
  have hfo:B.bOf xs=(i,B.bE xs i):=B.first_at hb0 hbn (show i<xs.length by omega)
  rw[hfo,hbi]
  exact⟨B49,.inr ⟨by (try dsimp only); omega,rfl⟩⟩
 refine xr1 1 [(14,.eq bF)] [(14,bF)] [] (dF c_1) ?_
 refine nl (sq (cf (X_exit (sg (xe0 1 [(47,aL A xs c)] ?_)))))
 have hbf:B.bOf xs=(0,0):=B.first_none fun j_ hj_=>hb0 j_ (by omega)
 have hgd:=B.bOf_ok (xs:=xs) (by rw[hbf])
 refine xc 158 ent158 [aL A xs c] (r6canonical_any A c xs W0 _ (bt hW HB) (RX.OpK.of_C hx (bt hW HB)) hgd.1 hgd.2.1 hn hz ht) ?_
 rintro e w52 ⟨A50,c51,rfl,m53,b54⟩; refine⟨_,rfl,?_⟩
 refine xe0 3 [(2,aL A50 (B.can xs) c51),(3,i6 0),(4,i6 0)] ?_
 refine nl (X_ret (rj [.slice A50 ((B.can xs).length) c51,i6 0,i6 0] hR_ ?_))
 rw[hbf]
 exact⟨(bt HB b54),.inl ⟨rfl,A50,c51,rfl,(MixK.low m53 (HB).size)⟩⟩
end Go.Proofs.YtgphmfnkeolbcaaGreatDoor
