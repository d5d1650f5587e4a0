import Derived.Test.YtlnnjfdonilgmaaGreatDoorPlc
import Derived.Test.YtlnnjfdonilgmaaGreatDoorO3
/- Places carried over a delta. Conditions: sizes, the tables of utf8, the errors' variables. -/
set_option linter.unusedVariables false
set_option linter.unusedSimpArgs false
set_option maxRecDepth 100000
namespace Go.Proofs.YtlnnjfdonilgmaaGreatDoor
open Go Go.RowKit Go.Proofs.YtlnnjfdonilgmaaGreatDoorW.PrintWords RX
theorem ent68 :Ent Tryz.prog 68:=ent_of Tryz.func68 (by kernel_rfl) rfl
theorem ent67 :Ent Tryz.prog 67:=ent_of Tryz.func67 (by kernel_rfl) rfl
theorem ent50 :Ent Tryz.prog 50:=ent_of Tryz.func50 (by kernel_rfl) rfl
theorem ent35 :Ent Tryz.prog 35:=ent_of Tryz.func35 (by kernel_rfl) rfl
theorem opLen_le {o:OpA}(h:pErr o=0)(hz:opSz o):0≤opLen o∧opLen o≤1099511627776:=by
 refine⟨opLen_ok h,?_⟩
 have h1:=hz.1
 have h2:=U.sc_le o.text
 have h3:=fun hk=>count_of_ok h hk
 have h4:=kind_of_ok h
 unfold opLen
 by_cases k1:o.kind=1
 ·rw[if_pos k1]; omega
 rw[if_neg k1]
 by_cases k2:o.kind=2
 ·rw[if_pos k2]; omega
 rw[if_neg k2]; have:=h3 (by omega); omega
theorem plOk_all {xs:List OpA}(hb:badE xs=0)(hz:∀ i,i<xs.length→opSz (xs.getD i op0))(k:Nat):PlOk 1099511627776 ((xs.take k).map pelO):=by
 intro o ho
 obtain⟨q,hq,rfl⟩:=List.mem_map.1 ho
 obtain⟨i,hi,rfl⟩:=List.getElem_of_mem (List.mem_of_mem_take hq)
 have h1:=badE_getD hb hi
 have h2:=hz i hi
 rw[List.getD_eq_getElem?_getD,List.getElem?_eq_getElem hi]at h1 h2
 exact⟨kind_of_ok h1,opLen_le h1 h2⟩
theorem pl_bounds {xs:List OpA}(hb:badE xs=0)(hz:∀ i,i<xs.length→opSz (xs.getD i op0)){p:Int}(b:Bool)(hp:0≤p){i:Nat}(hi:i≤xs.length):
  0≤(plFold p b ((xs.take i).map pelO)).1∧(plFold p b ((xs.take i).map pelO)).1≤(i:Int)*1099511627776∧max (p-(plFold p b ((xs.take i).map pelO)).1) 0≤(plFold p b ((xs.take i).map pelO)).2∧(plFold p b ((xs.take i).map pelO)).2≤p+(i:Int)*1099511627776:=by
 obtain⟨h1,h2,_,h4,h5⟩:=pl_bd (M:=1099511627776) b hp (by decide) _ (plOk_all hb hz i)
 rw[List.length_map,List.length_take,Nat.min_eq_left hi]at h2 h5
 exact⟨h1,h2,h4,h5⟩
set_option maxHeartbeats 1000000 in
theorem r14car_any (A:Option Addr)(c:Nat)(xs:List OpA)(p:Int)(b:Bool)(w:World)(hx:kOp.C w A xs.length xs)(hn:xs.length≤1100000)(hz:∀ i,i<xs.length→opSz (xs.getD i op0))(hb:badE xs=0)(hp:0≤p∧p≤1099511627776):Rt 57 #[.slice A xs.length c,i6 p,.bool b] w (i6 (plOf p b (xs.map pelO))):=by
 have hpl:xs.length≤9223372036854775807:=hx.2.1
 refine en Tryz.func57 rfl 68 [(0,aL A xs c),(1,i6 p),(2,.bool b)] (fun R_ hR_=>?_)
 refine sg (xe0 1 [(0,aL A xs c),(1,i6 p),(2,.bool b)] ?_)
 refine nl (sg (xr0 2 [(7,i6 0),(8,i6 0)] [] ?_))
 refine nl (sq (sg (xr0 1 [(9,i6 0)] [] ?_)))
 refine nl (bk (X_loop (ι:=Nat×Int×Int) (fun⟨i,g,u⟩=>[(0,aL A xs c),(1,i6 p),(2,.bool b),(7,i6 g),(8,i6 u),(9,i6 (i:Int))]) (fun⟨i,g,u⟩ wl=>i≤xs.length∧g=(rfFold p b ((xs.take i).map pelO)).1∧u=(rfFold p b ((xs.take i).map pelO)).2∧Below w.heap.size w wl) (fun⟨i,g,u⟩=>xs.length-i) (0,0,0) ⟨by omega,rfl,rfl,(Below.refl _ _)⟩ (by kernel_rfl) ?_))
 rintro⟨i,g,u⟩ wl ⟨hi,hg,hu,HB⟩
 obtain⟨hq1_,hq2_,hq3_,hq4_⟩:=pl_bounds hb hz b hp.1 hi
 obtain⟨hr1_,hr2_⟩:=pl_rf b hp.1 _ (plOk_all hb hz i)
 rw[←hg]at hr1_ hr2_
 rw[←hu]at hr2_
 refine sq (sg (xr0 3 [(11,nv i),(13,i6 (xs.length:Int))] [] ?_))
 by_cases c1:(i:Int)<(xs.length:Int)
 ·refine xr1 1 [(14,.eq bT)] [(14,bT)] [11,13] (dT c1) ?_
  refine nl (ct (sk (sq (bk (sg (xr0 2 [(17,aL A xs c),(18,nv i)] [14] ?_))))))
  obtain⟨ad2,B5,c6,a3,c4,l7,C8⟩:=Kd.atOp (Kd.C_below hx HB) (i:=(i:Int)) (by omega) (by omega)
  replace c4:CellsAt wl (ad2.add ((i:Int).toNat*7)) (o7L (xs.getD i op0) (aL B5 (xs.getD i op0).attrs c6)):=c4
  replace l7:(xs.getD i op0).attrs.length≤c6:=l7
  replace C8:kAttr.C wl B5 ((xs.getD i op0).attrs.length) (xs.getD i op0).attrs:=C8
  refine xr 2 [(19,.idx ad2),(20,.load (.agg (o7A (xs.getD i op0) (aL B5 (xs.getD i op0).attrs c6))))] [(20,.agg (o7A (xs.getD i op0) (aL B5 (xs.getD i op0).attrs c6)))] [17,18] [A=some ad2,(0:Int)≤(i:Int),(i:Int)<(xs.length:Int),la 70 (ad2.add ((i:Int).toNat*7)) (.agg (o7A (xs.getD i op0) (aL B5 (xs.getD i op0).attrs c6))) wl] ⟨a3,(by omega),(by omega),loadsE rfl rfl c4 0 ⟨by kernel_rfl,by kernel_rfl⟩,trivial⟩ ?_
  refine xc 36 ent36 [.agg (o7A (xs.getD i op0) (aL B5 (xs.getD i op0).attrs c6))] (r5len_any (xs.getD i op0) _ _ _ C8 (hz i (by omega))) ?_
  rintro e w9 ⟨rfl,b10⟩; refine⟨_,rfl,?_⟩
  have hpe:=badE_getD hb (show i<xs.length by omega)
  have hol:=opLen_le hpe (hz i (by omega))
  have hkd:=kind_of_ok hpe
  refine xr0 1 [(10,i6 (opLen (xs.getD i op0)))] [20,21] ?_
  refine nl (sg (xe0 2 [(0,aL A xs c),(1,i6 p),(2,.bool b),(7,i6 g),(8,i6 u),(9,nv i),(10,i6 (opLen (xs.getD i op0))),(22,aL A xs c),(23,nv i)] ?_))
  obtain⟨ad11,B14,c15,a12,c13,l16,C17⟩:=Kd.atOp (Kd.C_below hx (bt HB b10)) (i:=(i:Int)) (by omega) (by omega)
  replace c13:CellsAt w9 (ad11.add ((i:Int).toNat*7)) (o7L (xs.getD i op0) (aL B14 (xs.getD i op0).attrs c15)):=c13
  replace l16:(xs.getD i op0).attrs.length≤c15:=l16
  replace C17:kAttr.C w9 B14 ((xs.getD i op0).attrs.length) (xs.getD i op0).attrs:=C17
  refine xr 3 [(24,.idx ad11),(26,.load (i6 ((xs.getD i op0).kind)))] [(26,i6 ((xs.getD i op0).kind))] [22,23] [A=some ad11,(0:Int)≤(i:Int),(i:Int)<(xs.length:Int),la 3 (ad11.add ((i:Int).toNat*7)) (i6 ((xs.getD i op0).kind)) w9] ⟨a12,(by omega),(by omega),loads1 rfl (elem_cell c13 0 _ rfl),trivial⟩ ?_
  refine nl (bk (sq (sq (X_region ?_))))
  by_cases c18:(xs.getD i op0).kind=1
  ·refine xr1 2 [(28,.eq bT)] [(27,bT)] [] (bE c18) ?_
   refine nl (ct (sk (ct (sg (xr0 2 [(30,i6 g),(31,i6 p)] [26,27] ?_)))))
   by_cases c19:g<p
   ·refine xr1 9 [(32,.eq bT)] [(40,bT)] [30,31] (dT c19) ?_
    refine nl (ct (rg (xr1 4 [(43,.eq (i6 (u+(opLen (xs.getD i op0)))))] [(8,i6 (u+(opLen (xs.getD i op0))))] [10,40] (w6 (u+(opLen (xs.getD i op0)))) ?_)))
    refine nl (rg (xe1 3 [(16,.eq (i6 ((i:Int)+1)))] [(0,aL A xs c),(1,i6 p),(2,.bool b),(7,i6 g),(8,i6 (u+(opLen (xs.getD i op0)))),(9,i6 ((i:Int)+1))] (w6 ((i:Int)+1)) ?_))
    refine nl ?_
    refine⟨(i+1,g,u+(opLen (xs.getD i op0))),by kernel_rfl,?_,?_⟩
    ·have hst_:=rf_len p b xs i (by omega)
     rw[rf_ins (o:=pelO (xs.getD i op0)) (show (xs.getD i op0).kind=1∨(xs.getD i op0).kind=2 by omega),←hg,←hu]at hst_
     rw[if_pos (.inl c19)]at hst_
     exact⟨by omega,(congrArg Prod.fst hst_).symm,(congrArg Prod.snd hst_).symm,(bt HB b10)⟩
    (try dsimp only); omega
   refine xr1 4 [(32,.eq bF)] [(33,bF),(34,i6 g),(35,i6 p)] [30,31] (dF c19) ?_
   by_cases c20:g=p
   ·refine xr1 5 [(36,.eq bT)] [(40,.bool b)] [33,34,35] (bE c20) ?_
    refine nl ?_
    by_cases c21:b=true
    ·rw[show (b:Bool)=true from by simpa using c21]
     refine ct (rg (xe1 4 [(43,.eq (i6 (u+(opLen (xs.getD i op0)))))] [(0,aL A xs c),(1,i6 p),(2,bT),(7,i6 g),(8,i6 (u+(opLen (xs.getD i op0)))),(9,nv i)] (w6 (u+(opLen (xs.getD i op0)))) ?_))
     refine nl (rg (xr1 3 [(16,.eq (i6 ((i:Int)+1)))] [(9,i6 ((i:Int)+1))] [] (w6 ((i:Int)+1)) ?_))
     refine nl ?_
     refine⟨(i+1,g,u+(opLen (xs.getD i op0))),by kernel_rfl,?_,?_⟩
     ·have hst_:=rf_len p b xs i (by omega)
      rw[rf_ins (o:=pelO (xs.getD i op0)) (show (xs.getD i op0).kind=1∨(xs.getD i op0).kind=2 by omega),←hg,←hu]at hst_
      rw[if_pos (.inr ⟨c20,c21⟩)]at hst_
      rw[show b=true from c21]at hst_
      exact⟨by omega,(congrArg Prod.fst hst_).symm,(congrArg Prod.snd hst_).symm,(bt HB b10)⟩
     (try dsimp only); omega
    rw[show (b:Bool)=false from by simpa using c21]
    refine cf (sk (rg (xe1 3 [(16,.eq (i6 ((i:Int)+1)))] [(0,aL A xs c),(1,i6 p),(2,bF),(7,i6 g),(8,i6 u),(9,i6 ((i:Int)+1))] (w6 ((i:Int)+1)) ?_)))
    refine nl ?_
    refine⟨(i+1,g,u),by kernel_rfl,?_,?_⟩
    ·have hst_:=rf_len p b xs i (by omega)
     rw[rf_ins (o:=pelO (xs.getD i op0)) (show (xs.getD i op0).kind=1∨(xs.getD i op0).kind=2 by omega),←hg,←hu]at hst_
     rw[if_neg (fun h_=>h_.elim c19 (fun h2_=>c21 h2_.2))]at hst_
     rw[show b=false from Bool.eq_false_iff.2 c21]at hst_
     exact⟨by omega,(congrArg Prod.fst hst_).symm,(congrArg Prod.snd hst_).symm,(bt HB b10)⟩
    (try dsimp only); omega
   refine xr1 5 [(36,.eq bF)] [(40,bF)] [33,34,35] (bN c20) ?_
   refine nl (cf (sk (rg (xe1 3 [(16,.eq (i6 ((i:Int)+1)))] [(0,aL A xs c),(1,i6 p),(2,.bool b),(7,i6 g),(8,i6 u),(9,i6 ((i:Int)+1))] (w6 ((i:Int)+1)) ?_))))
   refine nl ?_
   refine⟨(i+1,g,u),by kernel_rfl,?_,?_⟩
   ·have hst_:=rf_len p b xs i (by omega)
    rw[rf_ins (o:=pelO (xs.getD i op0)) (show (xs.getD i op0).kind=1∨(xs.getD i op0).kind=2 by omega),←hg,←hu]at hst_
    rw[if_neg (fun h_=>h_.elim c19 (fun h2_=>c20 h2_.1))]at hst_
    exact⟨by omega,(congrArg Prod.fst hst_).symm,(congrArg Prod.snd hst_).symm,(bt HB b10)⟩
   (try dsimp only); omega
  refine xr1 2 [(28,.eq bF)] [(27,bF)] [] (bN c18) ?_
  refine nl (cf (X_region ?_))
  by_cases c22:(xs.getD i op0).kind=2
  ·refine xr1 2 [(29,.eq bT)] [(27,bT)] [] (bE c22) ?_
   refine nl (ct (sg (xr0 2 [(30,i6 g),(31,i6 p)] [26,27] ?_)))
   by_cases c23:g<p
   ·refine xr1 9 [(32,.eq bT)] [(40,bT)] [30,31] (dT c23) ?_
    refine nl (ct (rg (xe1 4 [(43,.eq (i6 (u+(opLen (xs.getD i op0)))))] [(0,aL A xs c),(1,i6 p),(2,.bool b),(7,i6 g),(8,i6 (u+(opLen (xs.getD i op0)))),(9,nv i)] (w6 (u+(opLen (xs.getD i op0)))) ?_)))
    refine nl (rg (xr1 3 [(16,.eq (i6 ((i:Int)+1)))] [(9,i6 ((i:Int)+1))] [] (w6 ((i:Int)+1)) ?_))
    refine nl ?_
    refine⟨(i+1,g,u+(opLen (xs.getD i op0))),by kernel_rfl,?_,?_⟩
    ·have hst_:=rf_len p b xs i (by omega)
     rw[rf_ins (o:=pelO (xs.getD i op0)) (show (xs.getD i op0).kind=1∨(xs.getD i op0).kind=2 by omega),←hg,←hu]at hst_
     rw[if_pos (.inl c23)]at hst_
     exact⟨by omega,(congrArg Prod.fst hst_).symm,(congrArg Prod.snd hst_).symm,(bt HB b10)⟩
    (try dsimp only); omega
   refine xr1 4 [(32,.eq bF)] [(33,bF),(34,i6 g),(35,i6 p)] [30,31] (dF c23) ?_
   by_cases c24:g=p
   ·refine xe1 5 [(36,.eq bT)] [(0,aL A xs c),(1,i6 p),(2,.bool b),(7,i6 g),(8,i6 u),(9,nv i),(10,i6 (opLen (xs.getD i op0))),(40,.bool b)] (bE c24) ?_
    refine nl ?_
    by_cases c25:b=true
    ·rw[show (b:Bool)=true from by simpa using c25]
     refine ct (rg (xr1 4 [(43,.eq (i6 (u+(opLen (xs.getD i op0)))))] [(2,bT),(8,i6 (u+(opLen (xs.getD i op0))))] [10,40] (w6 (u+(opLen (xs.getD i op0)))) ?_))
     refine nl (rg (xr1 3 [(16,.eq (i6 ((i:Int)+1)))] [(9,i6 ((i:Int)+1))] [] (w6 ((i:Int)+1)) ?_))
     refine nl ?_
     refine⟨(i+1,g,u+(opLen (xs.getD i op0))),by kernel_rfl,?_,?_⟩
     ·have hst_:=rf_len p b xs i (by omega)
      rw[rf_ins (o:=pelO (xs.getD i op0)) (show (xs.getD i op0).kind=1∨(xs.getD i op0).kind=2 by omega),←hg,←hu]at hst_
      rw[if_pos (.inr ⟨c24,c25⟩)]at hst_
      rw[show b=true from c25]at hst_
      exact⟨by omega,(congrArg Prod.fst hst_).symm,(congrArg Prod.snd hst_).symm,(bt HB b10)⟩
     (try dsimp only); omega
    rw[show (b:Bool)=false from by simpa using c25]
    refine cf (sk (rg (xr1 3 [(16,.eq (i6 ((i:Int)+1)))] [(2,bF),(9,i6 ((i:Int)+1))] [10,40] (w6 ((i:Int)+1)) ?_)))
    refine nl ?_
    refine⟨(i+1,g,u),by kernel_rfl,?_,?_⟩
    ·have hst_:=rf_len p b xs i (by omega)
     rw[rf_ins (o:=pelO (xs.getD i op0)) (show (xs.getD i op0).kind=1∨(xs.getD i op0).kind=2 by omega),←hg,←hu]at hst_
     rw[if_neg (fun h_=>h_.elim c23 (fun h2_=>c25 h2_.2))]at hst_
     rw[show b=false from Bool.eq_false_iff.2 c25]at hst_
     exact⟨by omega,(congrArg Prod.fst hst_).symm,(congrArg Prod.snd hst_).symm,(bt HB b10)⟩
    (try dsimp only); omega
   refine xe1 5 [(36,.eq bF)] [(0,aL A xs c),(1,i6 p),(2,.bool b),(7,i6 g),(8,i6 u),(9,nv i),(10,i6 (opLen (xs.getD i op0))),(40,bF)] (bN c24) ?_
   refine nl (cf (sk (rg (xr1 3 [(16,.eq (i6 ((i:Int)+1)))] [(9,i6 ((i:Int)+1))] [10,40] (w6 ((i:Int)+1)) ?_))))
   refine nl ?_
   refine⟨(i+1,g,u),by kernel_rfl,?_,?_⟩
   ·have hst_:=rf_len p b xs i (by omega)
    rw[rf_ins (o:=pelO (xs.getD i op0)) (show (xs.getD i op0).kind=1∨(xs.getD i op0).kind=2 by omega),←hg,←hu]at hst_
    rw[if_neg (fun h_=>h_.elim c23 (fun h2_=>c24 h2_.1))]at hst_
    exact⟨by omega,(congrArg Prod.fst hst_).symm,(congrArg Prod.snd hst_).symm,(bt HB b10)⟩
   (try dsimp only); omega
  refine xr1 2 [(29,.eq bF)] [] [] (bN c22) ?_
  refine nl (cf (sq (X_region ?_)))
  by_cases c26:(xs.getD i op0).kind=3
  ·refine xr1 2 [(45,.eq bT)] [(44,bT)] [27] (bE c26) ?_
   refine nl (ct (sg (xr 9 [(49,.eq (i6 (p-g))),(51,.eq (i6 (min (p-g) (opLen (xs.getD i op0))))),(52,.eq (i6 (max 0 (min (p-g) (opLen (xs.getD i op0)))))),(53,.eq (i6 (u+(max 0 (min (p-g) (opLen (xs.getD i op0)))))))] [(8,i6 (u+(max 0 (min (p-g) (opLen (xs.getD i op0))))))] [26,44] [_,i6 (if opLen (xs.getD i op0)<p-g then opLen (xs.getD i op0)else p-g)=i6 (min (p-g) (opLen (xs.getD i op0))),i6 (if min (p-g) (opLen (xs.getD i op0))>0 then min (p-g) (opLen (xs.getD i op0))else 0)=i6 (max 0 (min (p-g) (opLen (xs.getD i op0)))),_] ⟨w6 (p-g),congrArg (Value.int .i64) (min_eq _ _),congrArg (Value.int .i64) (max_eq _ _),w6 (u+(max 0 (min (p-g) (opLen (xs.getD i op0))))),trivial⟩ ?_)))
   refine nl (rg (xe1 4 [(56,.eq (i6 (g+(opLen (xs.getD i op0)))))] [(0,aL A xs c),(1,i6 p),(2,.bool b),(7,i6 (g+(opLen (xs.getD i op0)))),(8,i6 (u+(max 0 (min (p-g) (opLen (xs.getD i op0)))))),(9,nv i)] (w6 (g+(opLen (xs.getD i op0)))) ?_))
   refine nl (rg (xr1 3 [(16,.eq (i6 ((i:Int)+1)))] [(9,i6 ((i:Int)+1))] [] (w6 ((i:Int)+1)) ?_))
   refine nl ?_
   refine⟨(i+1,g+(opLen (xs.getD i op0)),u+(max 0 (min (p-g) (opLen (xs.getD i op0))))),by kernel_rfl,?_,?_⟩
   ·have hst_:=rf_len p b xs i (by omega)
    rw[rf_ret (o:=pelO (xs.getD i op0)) (show (xs.getD i op0).kind=3 by omega),←hg,←hu]at hst_
    exact⟨by omega,(congrArg Prod.fst hst_).symm,(congrArg Prod.snd hst_).symm,(bt HB b10)⟩
   (try dsimp only); omega
  refine xr1 2 [(45,.eq bF)] [(44,bF)] [27] (bN c26) ?_
  refine nl (cf (sq (X_region ?_)))
  by_cases c27:(xs.getD i op0).kind=4
  ·refine xr1 2 [(58,.eq bT)] [(57,bT)] [26,44] (bE c27) ?_
   refine nl (ct (rg (xe1 4 [(61,.eq (i6 (g+(opLen (xs.getD i op0)))))] [(0,aL A xs c),(1,i6 p),(2,.bool b),(7,i6 (g+(opLen (xs.getD i op0)))),(8,i6 u),(9,nv i)] (w6 (g+(opLen (xs.getD i op0)))) ?_)))
   refine nl (rg (xr1 3 [(16,.eq (i6 ((i:Int)+1)))] [(9,i6 ((i:Int)+1))] [] (w6 ((i:Int)+1)) ?_))
   refine nl ?_
   refine⟨(i+1,g+(opLen (xs.getD i op0)),u),by kernel_rfl,?_,?_⟩
   ·have hst_:=rf_len p b xs i (by omega)
    rw[rf_del (o:=pelO (xs.getD i op0)) (show (xs.getD i op0).kind=4 by omega),←hg,←hu]at hst_
    exact⟨by omega,(congrArg Prod.fst hst_).symm,(congrArg Prod.snd hst_).symm,(bt HB b10)⟩
   (try dsimp only); omega
  exfalso; omega
 refine xr1 1 [(14,.eq bF)] [(14,bF)] [11,13] (dF c1) ?_
 refine nl (cf (X_exit (sg (xe 7 [(65,.eq (i6 (p-g))),(66,.eq (i6 (max 0 (p-g)))),(67,.eq (i6 (u+(max 0 (p-g)))))] [(6,i6 (u+(max 0 (p-g))))] [_,i6 (if p-g>0 then p-g else 0)=i6 (max 0 (p-g)),_] ⟨w6 (p-g),congrArg (Value.int .i64) (max_eq _ _),w6 (u+(max 0 (p-g))),trivial⟩ ?_))))
 refine nl (X_ret (rj [i6 (u+(max 0 (p-g)))] hR_ ?_))
 have hxi:xs.take i=xs:=List.take_of_length_le (by omega)
 rw[hxi]at hr1_ hr2_
 rw[show plOf p b (xs.map pelO)=u+(max 0 (p-g))from hr2_]
 exact⟨rfl,HB⟩
noncomputable def plE (xs:List OpA) (p:Int) (b:Bool):Int×Nat:=if p<0∨1099511627776<p then (0,12)else if 1099511627776<plOf p b (xs.map pelO)then (0,11)else (plOf p b (xs.map pelO),0)
theorem plE_le (xs:List OpA)(p:Int)(b:Bool):(plE xs p b).2≤19:=by unfold plE; split; (· exact Nat.le_of_ble_eq_true rfl); (· split<;>exact Nat.le_of_ble_eq_true rfl)
set_option maxHeartbeats 1000000 in
theorem pcar_any (d:Nat)(xs:List OpA)(p:Int)(b:Bool)(w:World)(hd:DeltaC w d xs)(hb:badE xs=0)(hn:xs.length≤1100000)(hz:∀ i,i<xs.length→opSz (xs.getD i op0))(hT:Tabs w)(es:List Addr)(hE:ErrsO w es)(hp:0≤p∧p≤1099511627776):Rt 68 #[pw d 0,i6 p,.bool b] w (i6 (plOf p b (xs.map pelO))):=by
 have hlm:(List.map pOf xs).length=xs.length:=List.length_map ..
 refine en Tryz.func68 rfl 60 [(0,pw d 0),(1,i6 p),(2,.bool b)] (fun R_ hR_=>?_)
 refine sg (xe0 1 [(0,pw d 0),(1,i6 p),(2,.bool b)] ?_)
 refine nl (sg (xr0 3 [(7,i6 0),(8,i6 p)] [] ?_))
 refine nl (sq (sg (xr0 1 [(12,pw d 0)] [0] ?_)))
 refine xc 80 ent80 [pw d 0] (dpieces_any d xs _ (hd.below (Below.refl _ _)) hb hn hz (hT.below (Below.refl _ _)) es (hE.below (Below.refl _ _))) ?_
 rintro e w4 ⟨A1,c2,rfl,r3,b5⟩; refine⟨_,rfl,?_⟩
 refine xr0 2 [(13,aL A1 (List.map pOf xs) c2),(14,i6 ((List.map pOf xs).length:Int)),(15,i6 0)] [12] ?_
 refine nl (bk (X_loop (ι:=Nat×Int×Int) (fun⟨i,g,u⟩=>[(1,i6 p),(2,.bool b),(7,i6 g),(8,i6 u),(13,aL A1 (List.map pOf xs) c2),(14,i6 ((List.map pOf xs).length:Int)),(15,i6 (i:Int))]) (fun⟨i,g,u⟩ wl=>i≤xs.length∧g=(plFold p b ((xs.take i).map pelO)).1∧u=(plFold p b ((xs.take i).map pelO)).2∧Below w4.heap.size w4 wl) (fun⟨i,g,u⟩=>xs.length-i) (0,0,p) ⟨by omega,rfl,rfl,Below.refl _ _⟩ (by kernel_rfl) ?_))
 rintro⟨i,g,u⟩ wl ⟨hi,hg,hu,HB⟩
 obtain⟨hq1_,hq2_,hq3_,hq4_⟩:=pl_bounds hb hz b hp.1 hi
 rw[←hg]at hq1_ hq2_ hq3_
 rw[←hu]at hq3_ hq4_
 refine sq (X_region ?_)
 by_cases c6:(i:Int)<((List.map pOf xs).length:Int)
 ·refine xr1 1 [(16,.eq bT)] [(16,bT)] [] (dT c6) ?_
  refine nl (sq (ct (sk (sq (bk (sq (X_region ?_)))))))
  have hil14:i<xs.length:=by omega
  obtain⟨ad7,cs13,a8,K12,c9⟩:=Kd.atC (Kd.C_below (Kd.R_C r3) HB) piece0 (i:=(i:Int)) (by omega) (by omega)
  rw[show (List.map pOf xs).getD (i:Int).toNat piece0=pOf (xs.getD i op0)from map_getD pOf op0 piece0 hil14]at K12
  obtain⟨x10,rfl,x11⟩:=pel_of K12 (badE_getD hb hil14)
  replace c9:CellsAt wl (ad7.add ((i:Int).toNat*1)) [x10.val]:=c9
  refine xr 3 [(17,.idx ad7),(18,.load (x10.val))] [(10,x10.val)] [16] [A1=some ad7,(0:Int)≤(i:Int),(i:Int)<((List.map pOf xs).length:Int),la 123 (ad7.add ((i:Int).toNat*1)) (x10.val) wl] ⟨a8,(by omega),(by omega),loads1 rfl (elem_cell c9 0 _ rfl),trivial⟩ ?_
  refine nl (sg (xr0 1 [(19,x10.val)] [] ?_))
  refine nl (bk (sq (X_region ?_)))
  have hol:=opLen_le (badE_getD hb (show i<xs.length by omega)) (hz i (by omega))
  have hxo_:x10.op.2=opLen (xs.getD i op0):=congrArg Prod.snd x11
  rw[←hxo_]at hol
  rcases x10 with ⟨A_,n_,c_,t_,k_⟩|⟨A_,n_,c_,t_,v_⟩|⟨A_,n_,c_,k_⟩|⟨k_⟩<;>dsimp only[PEl.op]at hol
  ·refine xr0 3 [(10,.iface 153 (.agg #[.slice A_ n_ c_,sT t_,i6 k_])),(19,.iface 153 (.agg #[.slice A_ n_ c_,sT t_,i6 k_])),(36,bF)] [] ?_
   refine nl (cf (sg (xr0 3 [(43,bF)] [19,36] ?_)))
   refine nl (cf (sg (xe0 2 [(1,i6 p),(2,.bool b),(7,i6 g),(8,i6 u),(10,.iface 153 (.agg #[.slice A_ n_ c_,sT t_,i6 k_])),(13,aL A1 (List.map pOf xs) c2),(14,i6 ((List.map pOf xs).length:Int)),(15,nv i),(20,i6 g),(21,i6 p)] ?_)))
   by_cases c15:g<p
   ·refine xr1 9 [(22,.eq bT)] [(30,bT)] [20,21] (dT c15) ?_
    refine nl (ct (rg (xr0 2 [(31,i6 u),(32,.iface 153 (.agg #[.slice A_ n_ c_,sT t_,i6 k_]))] [8,10,30] ?_)))
    refine XL_inv 146 #[.agg #[.slice A_ n_ c_,sT t_,i6 k_]] rfl rfl (by kernel_rfl) (by kernel_rfl) (insertLen_any _ _ _ _ _ _) ?_
    rintro e w16 ⟨rfl,b17⟩; refine⟨_,rfl,?_⟩
    refine xr1 2 [(34,.eq (i6 (u+k_)))] [(8,i6 (u+k_))] [31,32,33] (w6 (u+k_)) ?_
    refine nl (rg (xr1 2 [(58,.eq (i6 ((i:Int)+1)))] [(15,i6 ((i:Int)+1))] [] (w6 ((i:Int)+1)) ?_))
    refine nl ?_
    refine⟨(i+1,g,u+k_),by kernel_rfl,?_,?_⟩
    ·have hst_:=pl_len 0 p b xs i (by omega)
     rw[←x11]at hst_
     rw[pl_ins (o:=PEl.op (PEl.ins A_ n_ c_ t_ k_)) (.inl rfl),←hg,←hu]at hst_
     rw[if_pos (.inl c15)]at hst_
     exact⟨by omega,(congrArg Prod.fst hst_).symm,(congrArg Prod.snd hst_).symm,(bt HB b17)⟩
    (try dsimp only); omega
   refine xr1 4 [(22,.eq bF)] [(23,bF),(24,i6 g),(25,i6 p)] [20,21] (dF c15) ?_
   by_cases c18:g=p
   ·refine xr1 5 [(26,.eq bT)] [(30,.bool b)] [23,24,25] (bE c18) ?_
    refine nl ?_
    by_cases c19:b=true
    ·rw[show (b:Bool)=true from by simpa using c19]
     refine ct (rg (xr0 2 [(2,bT),(31,i6 u),(32,.iface 153 (.agg #[.slice A_ n_ c_,sT t_,i6 k_]))] [8,10,30] ?_))
     refine XL_inv 146 #[.agg #[.slice A_ n_ c_,sT t_,i6 k_]] rfl rfl (by kernel_rfl) (by kernel_rfl) (insertLen_any _ _ _ _ _ _) ?_
     rintro e w20 ⟨rfl,b21⟩; refine⟨_,rfl,?_⟩
     refine xr1 2 [(34,.eq (i6 (u+k_)))] [(8,i6 (u+k_))] [31,32,33] (w6 (u+k_)) ?_
     refine nl (rg (xr1 2 [(58,.eq (i6 ((i:Int)+1)))] [(15,i6 ((i:Int)+1))] [] (w6 ((i:Int)+1)) ?_))
     refine nl ?_
     refine⟨(i+1,g,u+k_),by kernel_rfl,?_,?_⟩
     ·have hst_:=pl_len 0 p b xs i (by omega)
      rw[←x11]at hst_
      rw[pl_ins (o:=PEl.op (PEl.ins A_ n_ c_ t_ k_)) (.inl rfl),←hg,←hu]at hst_
      rw[if_pos (.inr ⟨c18,c19⟩)]at hst_
      rw[show b=true from c19]at hst_
      exact⟨by omega,(congrArg Prod.fst hst_).symm,(congrArg Prod.snd hst_).symm,(bt HB b21)⟩
     (try dsimp only); omega
    rw[show (b:Bool)=false from by simpa using c19]
    refine cf (sk (rg (xr1 2 [(58,.eq (i6 ((i:Int)+1)))] [(2,bF),(15,i6 ((i:Int)+1))] [10,30] (w6 ((i:Int)+1)) ?_)))
    refine nl ?_
    refine⟨(i+1,g,u),by kernel_rfl,?_,?_⟩
    ·have hst_:=pl_len 0 p b xs i (by omega)
     rw[←x11]at hst_
     rw[pl_ins (o:=PEl.op (PEl.ins A_ n_ c_ t_ k_)) (.inl rfl),←hg,←hu]at hst_
     rw[if_neg (fun h_=>h_.elim c15 (fun h2_=>c19 h2_.2))]at hst_
     rw[show b=false from Bool.eq_false_iff.2 c19]at hst_
     exact⟨by omega,(congrArg Prod.fst hst_).symm,(congrArg Prod.snd hst_).symm,HB⟩
    (try dsimp only); omega
   refine xr1 5 [(26,.eq bF)] [(30,bF)] [23,24,25] (bN c18) ?_
   refine nl (cf (sk (rg (xr1 2 [(58,.eq (i6 ((i:Int)+1)))] [(15,i6 ((i:Int)+1))] [10,30] (w6 ((i:Int)+1)) ?_))))
   refine nl ?_
   refine⟨(i+1,g,u),by kernel_rfl,?_,?_⟩
   ·have hst_:=pl_len 0 p b xs i (by omega)
    rw[←x11]at hst_
    rw[pl_ins (o:=PEl.op (PEl.ins A_ n_ c_ t_ k_)) (.inl rfl),←hg,←hu]at hst_
    rw[if_neg (fun h_=>h_.elim c15 (fun h2_=>c18 h2_.1))]at hst_
    exact⟨by omega,(congrArg Prod.fst hst_).symm,(congrArg Prod.snd hst_).symm,HB⟩
   (try dsimp only); omega
  ·refine xr0 3 [(10,.iface 157 (.agg #[.slice A_ n_ c_,sT t_,v_])),(19,.iface 157 (.agg #[.slice A_ n_ c_,sT t_,v_])),(36,bF)] [] ?_
   refine nl (cf (sg (xr0 3 [(43,bF)] [19,36] ?_)))
   refine nl (cf (sg (xe0 2 [(1,i6 p),(2,.bool b),(7,i6 g),(8,i6 u),(10,.iface 157 (.agg #[.slice A_ n_ c_,sT t_,v_])),(13,aL A1 (List.map pOf xs) c2),(14,i6 ((List.map pOf xs).length:Int)),(15,nv i),(20,i6 g),(21,i6 p)] ?_)))
   by_cases c22:g<p
   ·refine xr1 9 [(22,.eq bT)] [(30,bT)] [20,21] (dT c22) ?_
    refine nl (ct (rg (xr0 2 [(31,i6 u),(32,.iface 157 (.agg #[.slice A_ n_ c_,sT t_,v_]))] [8,10,30] ?_)))
    refine XL_inv 148 #[.agg #[.slice A_ n_ c_,sT t_,v_]] rfl rfl (by kernel_rfl) (by kernel_rfl) (embedLen_any _ _ _ _ _ _) ?_
    rintro e w23 ⟨rfl,b24⟩; refine⟨_,rfl,?_⟩
    refine xr1 2 [(34,.eq (i6 (u+1)))] [(8,i6 (u+1))] [31,32,33] (w6 (u+1)) ?_
    refine nl (rg (xr1 2 [(58,.eq (i6 ((i:Int)+1)))] [(15,i6 ((i:Int)+1))] [] (w6 ((i:Int)+1)) ?_))
    refine nl ?_
    refine⟨(i+1,g,u+1),by kernel_rfl,?_,?_⟩
    ·have hst_:=pl_len 0 p b xs i (by omega)
     rw[←x11]at hst_
     rw[pl_ins (o:=PEl.op (PEl.emb A_ n_ c_ t_ v_)) (.inr rfl),←hg,←hu]at hst_
     rw[if_pos (.inl c22)]at hst_
     exact⟨by omega,(congrArg Prod.fst hst_).symm,(congrArg Prod.snd hst_).symm,(bt HB b24)⟩
    (try dsimp only); omega
   refine xr1 4 [(22,.eq bF)] [(23,bF),(24,i6 g),(25,i6 p)] [20,21] (dF c22) ?_
   by_cases c25:g=p
   ·refine xr1 5 [(26,.eq bT)] [(30,.bool b)] [23,24,25] (bE c25) ?_
    refine nl ?_
    by_cases c26:b=true
    ·rw[show (b:Bool)=true from by simpa using c26]
     refine ct (rg (xr0 2 [(2,bT),(31,i6 u),(32,.iface 157 (.agg #[.slice A_ n_ c_,sT t_,v_]))] [8,10,30] ?_))
     refine XL_inv 148 #[.agg #[.slice A_ n_ c_,sT t_,v_]] rfl rfl (by kernel_rfl) (by kernel_rfl) (embedLen_any _ _ _ _ _ _) ?_
     rintro e w27 ⟨rfl,b28⟩; refine⟨_,rfl,?_⟩
     refine xr1 2 [(34,.eq (i6 (u+1)))] [(8,i6 (u+1))] [31,32,33] (w6 (u+1)) ?_
     refine nl (rg (xr1 2 [(58,.eq (i6 ((i:Int)+1)))] [(15,i6 ((i:Int)+1))] [] (w6 ((i:Int)+1)) ?_))
     refine nl ?_
     refine⟨(i+1,g,u+1),by kernel_rfl,?_,?_⟩
     ·have hst_:=pl_len 0 p b xs i (by omega)
      rw[←x11]at hst_
      rw[pl_ins (o:=PEl.op (PEl.emb A_ n_ c_ t_ v_)) (.inr rfl),←hg,←hu]at hst_
      rw[if_pos (.inr ⟨c25,c26⟩)]at hst_
      rw[show b=true from c26]at hst_
      exact⟨by omega,(congrArg Prod.fst hst_).symm,(congrArg Prod.snd hst_).symm,(bt HB b28)⟩
     (try dsimp only); omega
    rw[show (b:Bool)=false from by simpa using c26]
    refine cf (sk (rg (xr1 2 [(58,.eq (i6 ((i:Int)+1)))] [(2,bF),(15,i6 ((i:Int)+1))] [10,30] (w6 ((i:Int)+1)) ?_)))
    refine nl ?_
    refine⟨(i+1,g,u),by kernel_rfl,?_,?_⟩
    ·have hst_:=pl_len 0 p b xs i (by omega)
     rw[←x11]at hst_
     rw[pl_ins (o:=PEl.op (PEl.emb A_ n_ c_ t_ v_)) (.inr rfl),←hg,←hu]at hst_
     rw[if_neg (fun h_=>h_.elim c22 (fun h2_=>c26 h2_.2))]at hst_
     rw[show b=false from Bool.eq_false_iff.2 c26]at hst_
     exact⟨by omega,(congrArg Prod.fst hst_).symm,(congrArg Prod.snd hst_).symm,HB⟩
    (try dsimp only); omega
   refine xr1 5 [(26,.eq bF)] [(30,bF)] [23,24,25] (bN c25) ?_
   refine nl (cf (sk (rg (xr1 2 [(58,.eq (i6 ((i:Int)+1)))] [(15,i6 ((i:Int)+1))] [10,30] (w6 ((i:Int)+1)) ?_))))
   refine nl ?_
   refine⟨(i+1,g,u),by kernel_rfl,?_,?_⟩
   ·have hst_:=pl_len 0 p b xs i (by omega)
    rw[←x11]at hst_
    rw[pl_ins (o:=PEl.op (PEl.emb A_ n_ c_ t_ v_)) (.inr rfl),←hg,←hu]at hst_
    rw[if_neg (fun h_=>h_.elim c22 (fun h2_=>c25 h2_.1))]at hst_
    exact⟨by omega,(congrArg Prod.fst hst_).symm,(congrArg Prod.snd hst_).symm,HB⟩
   (try dsimp only); omega
  ·refine xr0 3 [(10,.iface 131 (.agg #[.slice A_ n_ c_,i6 k_])),(19,.iface 131 (.agg #[.slice A_ n_ c_,i6 k_])),(36,bT)] [] ?_
   refine nl (ct (rg (xr0 2 [(38,i6 g),(39,.iface 131 (.agg #[.slice A_ n_ c_,i6 k_]))] [7,10,19,36] ?_)))
   refine XL_inv 144 #[.agg #[.slice A_ n_ c_,i6 k_]] rfl rfl (by kernel_rfl) (by kernel_rfl) (retainLen_any _ _ _ _ _) ?_
   rintro e w29 ⟨rfl,b30⟩; refine⟨_,rfl,?_⟩
   refine xe1 2 [(41,.eq (i6 (g+k_)))] [(1,i6 p),(2,.bool b),(7,i6 (g+k_)),(8,i6 u),(13,aL A1 (List.map pOf xs) c2),(14,i6 ((List.map pOf xs).length:Int)),(15,nv i)] (w6 (g+k_)) ?_
   refine nl (rg (xr1 2 [(58,.eq (i6 ((i:Int)+1)))] [(15,i6 ((i:Int)+1))] [] (w6 ((i:Int)+1)) ?_))
   refine nl ?_
   refine⟨(i+1,g+k_,u),by kernel_rfl,?_,?_⟩
   ·have hst_:=pl_len 0 p b xs i (by omega)
    rw[←x11]at hst_
    rw[pl_ret (o:=PEl.op (PEl.ret A_ n_ c_ k_)) rfl,←hg,←hu]at hst_
    exact⟨by omega,(congrArg Prod.fst hst_).symm,(congrArg Prod.snd hst_).symm,(bt HB b30)⟩
   (try dsimp only); omega
  refine xr0 3 [(10,.iface 126 (.agg #[i6 k_])),(19,.iface 126 (.agg #[i6 k_])),(36,bF)] [] ?_
  refine nl (cf (sg (xr0 3 [(43,bT)] [19,36] ?_)))
  refine nl (ct (sg (xe0 2 [(1,i6 p),(2,.bool b),(7,i6 g),(10,.iface 126 (.agg #[i6 k_])),(13,aL A1 (List.map pOf xs) c2),(14,i6 ((List.map pOf xs).length:Int)),(15,nv i),(45,i6 u),(46,.iface 126 (.agg #[i6 k_]))] ?_)))
  refine XL_inv 141 #[.agg #[i6 k_]] rfl rfl (by kernel_rfl) (by kernel_rfl) (deleteLen_any _ _) ?_
  rintro e w31 ⟨rfl,b32⟩; refine⟨_,rfl,?_⟩
  refine xr 7 [(50,.eq (i6 (p-g))),(51,.eq (i6 (max (p-g) 0))),(52,.eq (i6 (min k_ (max (p-g) 0)))),(53,.eq (i6 (u-(min k_ (max (p-g) 0)))))] [(8,i6 (u-(min k_ (max (p-g) 0))))] [45,46,47] [_,i6 (if 0>p-g then 0 else p-g)=i6 (max (p-g) 0),i6 (if max (p-g) 0<k_ then max (p-g) 0 else k_)=i6 (min k_ (max (p-g) 0)),_] ⟨w6 (p-g),congrArg (Value.int .i64) (max_eq _ _),congrArg (Value.int .i64) (min_eq _ _),w6 (u-(min k_ (max (p-g) 0))),trivial⟩ ?_
  refine nl (rg (xr0 2 [(54,i6 g),(55,.iface 126 (.agg #[i6 k_]))] [7,10] ?_))
  refine XL_inv 141 #[.agg #[i6 k_]] rfl rfl (by kernel_rfl) (by kernel_rfl) (deleteLen_any _ _) ?_
  rintro e w33 ⟨rfl,b34⟩; refine⟨_,rfl,?_⟩
  refine xr1 2 [(57,.eq (i6 (g+k_)))] [(7,i6 (g+k_))] [54,55,56] (w6 (g+k_)) ?_
  refine nl (rg (xr1 2 [(58,.eq (i6 ((i:Int)+1)))] [(15,i6 ((i:Int)+1))] [] (w6 ((i:Int)+1)) ?_))
  refine nl ?_
  refine⟨(i+1,g+k_,u-(min k_ (max (p-g) 0))),by kernel_rfl,?_,?_⟩
  ·have hst_:=pl_len 0 p b xs i (by omega)
   rw[←x11]at hst_
   rw[pl_del (o:=PEl.op (PEl.del k_)) rfl,←hg,←hu]at hst_
   exact⟨by omega,(congrArg Prod.fst hst_).symm,(congrArg Prod.snd hst_).symm,(bt (bt HB b32) b34)⟩
  (try dsimp only); omega
 refine xr1 1 [(16,.eq bF)] [(16,bF)] [] (dF c6) ?_
 refine nl (sq (cf (X_exit (sg (xe0 2 [(6,i6 u)] ?_)))))
 refine nl (X_ret (rj [i6 u] hR_ ?_))
 have hxi:xs.take i=xs:=List.take_of_length_le (by omega)
 rw[hxi]at hu
 rw[show plOf p b (xs.map pelO)=u from by unfold plOf; rw[hu]]
 exact⟨rfl,(bt b5 HB)⟩
theorem isPlace_any (p:Int)(w:World):Rt 67 #[i6 p] w (.bool (decide (0≤p∧p≤1099511627776))):=by
 refine en Tryz.func67 rfl 9 [(0,i6 p)] (fun R_ hR_=>?_)
 refine sg (xe0 1 [(0,i6 p)] ?_)
 refine nl (sg (xr0 1 [(3,i6 p)] [] ?_))
 by_cases c1:p≥0
 ·refine xe1 3 [(4,.eq bT)] [(5,bT),(6,i6 p)] (dT c1) ?_
  by_cases c2:p≤1099511627776
  ·refine xe1 3 [(7,.eq bT)] [(2,bT)] (dT c2) ?_
   refine nl (X_ret (rj [bT] hR_ ?_))
   rw[show decide (0≤p∧p≤1099511627776)=true from decide_eq_true (by omega)]
   exact⟨rfl,(Below.refl _ _)⟩
  refine xe1 3 [(7,.eq bF)] [(2,bF)] (dF c2) ?_
  refine nl (X_ret (rj [bF] hR_ ?_))
  rw[show decide (0≤p∧p≤1099511627776)=false from decide_eq_false (by omega)]
  exact⟨rfl,(Below.refl _ _)⟩
 refine xe1 6 [(4,.eq bF)] [(2,bF)] (dF c1) ?_
 refine nl (X_ret (rj [bF] hR_ ?_))
 rw[show decide (0≤p∧p≤1099511627776)=false from decide_eq_false (by omega)]
 exact⟨rfl,(Below.refl _ _)⟩
theorem pplace_any (d:Nat)(xs:List OpA)(p:Int)(b:Bool)(w:World)(hd:DeltaC w d xs)(hb:badE xs=0)(hn:xs.length≤1100000)(hz:∀ i,i<xs.length→opSz (xs.getD i op0))(hT:Tabs w)(es:List Addr)(hE:ErrsO w es)(hR:ErrsOn [11,12] w es):Rt 50 #[pw d 0,i6 p,.bool b] w (.tuple #[i6 (plE xs p b).1,errV es (plE xs p b).2]):=by
 refine en Tryz.func50 rfl 21 [(0,pw d 0),(1,i6 p),(2,.bool b)] (fun R_ hR_=>?_)
 refine sg (xe0 2 [(0,pw d 0),(1,i6 p),(2,.bool b)] ?_)
 refine nl (sq (sg (xr0 1 [(9,i6 p)] [] ?_)))
 refine xc 67 ent67 [i6 p] (isPlace_any p _) ?_
 rintro e w1 ⟨rfl,b2⟩; refine⟨_,rfl,?_⟩
 by_cases c3:decide (0≤p∧p≤1099511627776)=true
 ·rw[show (decide (0≤p∧p≤1099511627776):Bool)=true from by simpa using c3]
  refine xr0 1 [(11,bF)] [9,10] ?_
  refine nl (cf (sk (sg (xe0 3 [(13,pw d 0),(14,i6 p),(15,.bool b)] ?_))))
  have hip_:=of_decide_eq_true c3
  refine xc 68 ent68 [pw d 0,i6 p,.bool b] (pcar_any d xs p b _ (hd.below b2) hb hn hz (hT.below b2) es (hE.below b2) hip_) ?_
  rintro e w4 ⟨rfl,b5⟩; refine⟨_,rfl,?_⟩
  refine xe0 1 [(8,i6 (plOf p b (xs.map pelO)))] ?_
  refine nl (sq (sg (xr0 1 [(17,i6 (plOf p b (xs.map pelO)))] [] ?_)))
  by_cases c6:plOf p b (xs.map pelO)>1099511627776
  ·refine xr1 1 [(18,.eq bT)] [(18,bT)] [17] (dT c6) ?_
   refine nl (ct (sq (X_still (by kernel_rfl) (by kernel_rfl) (fun wd7 b8 h9=>?_))))
   refine xse 3 [(19,.load (.iface 208 (.pointer (some (errAt es 11)))))] [(6,i6 0),(7,.iface 208 (.pointer (some (errAt es 11))))] [la 45 (⟨3,0,none⟩) (.iface 208 (.pointer (some (errAt es 11)))) wd7] ⟨loads1 rfl (((bt (bt b2 b5) b8).cell (World.block_lt_of_cell? _ _ (hR.load 11 3 (by decide) (by decide) rfl))).trans (hR.load 11 3 (by decide) (by decide) rfl)),trivial⟩ ?_
   refine XS_nil ?_
   refine X_ret (rj [i6 0,.iface 208 (.pointer (some (errAt es 11)))] hR_ ?_)
   have he_:plE xs p b=(0,11):=by unfold plE; rw[if_neg (by omega),if_pos (by omega)]
   rw[he_,errV_pos es 11 (by decide)]
   exact⟨rfl,(bt (bt b2 b5) b8)⟩
  refine xr1 1 [(18,.eq bF)] [(18,bF)] [17] (dF c6) ?_
  refine nl (cf (sk (sg (xe0 3 [(6,i6 (plOf p b (xs.map pelO))),(7,.nilIface)] ?_))))
  refine nl (X_ret (rj [i6 (plOf p b (xs.map pelO)),.nilIface] hR_ ?_))
  have he_:plE xs p b=(plOf p b (xs.map pelO),0):=by unfold plE; rw[if_neg (by omega),if_neg (by omega)]
  rw[he_,errV_zero]
  exact⟨rfl,(bt b2 b5)⟩
 rw[show (decide (0≤p∧p≤1099511627776):Bool)=false from by simpa using c3]
 refine xr0 1 [(11,bT)] [9,10] ?_
 refine nl (ct (sq (X_still (by kernel_rfl) (by kernel_rfl) (fun wd10 b11 h12=>?_))))
 refine xse 3 [(12,.load (.iface 208 (.pointer (some (errAt es 12)))))] [(6,i6 0),(7,.iface 208 (.pointer (some (errAt es 12))))] [la 45 (⟨2,0,none⟩) (.iface 208 (.pointer (some (errAt es 12)))) wd10] ⟨loads1 rfl (((bt b2 b11).cell (World.block_lt_of_cell? _ _ (hR.load 12 2 (by decide) (by decide) rfl))).trans (hR.load 12 2 (by decide) (by decide) rfl)),trivial⟩ ?_
 refine XS_nil ?_
 refine X_ret (rj [i6 0,.iface 208 (.pointer (some (errAt es 12)))] hR_ ?_)
 have hip_:=of_decide_eq_false (Bool.eq_false_iff.2 c3)
 have he_:plE xs p b=(0,12):=if_pos (by omega)
 rw[he_,errV_pos es 12 (by decide)]
 exact⟨rfl,(bt b2 b11)⟩
end Go.Proofs.YtlnnjfdonilgmaaGreatDoor
