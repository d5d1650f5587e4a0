/- The document's Move. Conditions: sizes. -/
import Derived.Test.YtlnnjfdonilgmaaGreatDoorMv
import Derived.Test.YtlnnjfdonilgmaaGreatDoorK2
set_option linter.unusedVariables false
set_option linter.unusedSimpArgs false
set_option maxRecDepth 100000
namespace Go.Proofs.YtlnnjfdonilgmaaGreatDoor
open Go Go.RowKit Go.Proofs.YtlnnjfdonilgmaaGreatDoorW.PrintWords RX
theorem ent30 :Ent Tryz.prog 30:=ent_of Tryz.func30 (by kernel_rfl) rfl
set_option maxHeartbeats 1000000 in
theorem r23move_any (gr:Nat)(A:Option Addr)(c:Nat)(ms:List MarkA)(au:ByteArray)(wB w:World)(hB:wB.heap.size≤w.heap.size)(hk:RX.Blk w gr 29 #[.slice A ms.length c])(hR:kMark.R 31 w wB.heap.size (OkFrom wB.heap.size) (.slice A ms.length c) ms)(hn:ms.length≤1000)(D:Option Addr)(d:Nat)(xs:List OpA)(hx:kOp.C w D xs.length xs)(hxn:xs.length≤1100000)(hz:∀ i,i<xs.length→opSz (xs.getD i op0))(hb:badE xs=0):Calls Tryz.prog 30 #[pw gr 0,.slice D xs.length d,sT au] w fun e w'=>e=.returned (i6 (mvE xs au ms:Int))∧Chg (fun k_=>k_=gr∨A.map (·.block)=some k_) w w'∧∃ A' c',RX.Blk w' gr 29 #[.slice A' (mvMs xs au ms).length c']∧kMark.R 31 w' wB.heap.size (OkFrom wB.heap.size) (.slice A' (mvMs xs au ms).length c') (mvMs xs au ms)∧(∀ k_,A'.map (·.block)=some k_→A.map (·.block)=some k_∨w.heap.size≤k_):=by
 have hC:=Kd.R_C hR
 refine en Tryz.func30 rfl 70 [(0,pw gr 0),(1,aL D xs d),(2,sT au)] (fun R_ hR_=>?_)
 refine sg (xe0 1 [(0,pw gr 0),(1,aL D xs d),(2,sT au)] ?_)
 refine nl (sg (xr0 1 [(7,.slice none 0 0)] [] ?_))
 refine nl (sq (sg (xr0 1 [(8,i6 0)] [] ?_)))
 refine nl (bk (X_loop (ι:=Nat×Option Addr×Nat×List MarkA) (fun⟨i,A3,c3,zs⟩=>[(0,pw gr 0),(1,aL D xs d),(2,sT au),(7,aL A3 zs c3),(8,i6 (i:Int))]) (fun⟨i,A3,c3,zs⟩ wl=>i≤ms.length∧zs=(ms.take i).map (mvMk xs au)∧(∀ t,t<i→mvOk xs au (ms.getD t mark0))∧kMark.R 31 wl w.heap.size (OkFrom w.heap.size) (aL A3 zs c3) zs∧Below w.heap.size w wl) (fun⟨i,A3,c3,zs⟩=>ms.length-i) (0,none,0,[]) ⟨by omega,rfl,fun t_ ht_=>by omega,Kd.R_nil _ _ _ _ _,Below.refl _ _⟩ (by kernel_rfl) ?_))
 rintro⟨i,A3,c3,zs⟩ wl ⟨hi,he3,hok,hr3,HB⟩
 have hzl_:zs.length=i:=by rw[he3,List.length_map,List.length_take]; omega
 refine sq (sg (xr1 6 [(18,.load (aL A ms c))] [(14,nv i),(19,i6 (ms.length:Int))] [] (lc 27 (Blk.below hk HB) 0) ?_))
 by_cases c1:(i:Int)<(ms.length:Int)
 ·refine xr1 1 [(20,.eq bT)] [(20,bT)] [14,19] (dT c1) ?_
  refine nl (ct (sk (sq (bk (sg (xr1 5 [(26,.load (aL A ms c))] [(26,aL A ms c),(27,nv i)] [20] (lc 27 (Blk.below hk HB) 0) ?_))))))
  obtain⟨ad2,a3,c4⟩:=Kd.atMark (Kd.C_below hC HB) (i:=(i:Int)) (by omega) (by omega)
  replace c4:CellsAt wl (ad2.add ((i:Int).toNat*3)) [sT ((ms.getD i mark0).1),i6 ((ms.getD i mark0).2.1),i6 ((ms.getD i mark0).2.2)]:=c4
  refine xw 3 [(28,.idx ad2),(29,.load (.agg #[sT ((ms.getD i mark0).1),i6 ((ms.getD i mark0).2.1),i6 ((ms.getD i mark0).2.2)]))] [(9,pw wl.heap.size 0),(29,.agg #[sT ((ms.getD i mark0).1),i6 ((ms.getD i mark0).2.1),i6 ((ms.getD i mark0).2.2)])] [26,27] (wl.alloc (.cells #[s0,i6 0,i6 0] 31)) [A=some ad2,(0:Int)≤(i:Int),(i:Int)<(ms.length:Int),la 31 (ad2.add ((i:Int).toNat*3)) (.agg #[sT ((ms.getD i mark0).1),i6 ((ms.getD i mark0).2.1),i6 ((ms.getD i mark0).2.2)]) wl] ⟨a3,(by omega),(by omega),loadsE rfl rfl c4 0 ⟨by kernel_rfl,by kernel_rfl⟩,trivial⟩ ?_
  obtain⟨w5,w9,b6,k7,z8⟩:=new_world wl #[s0,i6 0,i6 0] 31
  rw[w9]
  refine xst (.agg #[sT ((ms.getD i mark0).1),i6 ((ms.getD i mark0).2.1),i6 ((ms.getD i mark0).2.2)]) k7 0 #[sT ((ms.getD i mark0).1),i6 ((ms.getD i mark0).2.1),i6 ((ms.getD i mark0).2.2)] (fun w10 g11 k12 z13=>?_)
  have hne14:gr≠wl.heap.size:=Blk.tne (Blk.below hk (bt HB b6)) k7 rfl
  have k15:=Blk.other (Blk.below hk (bt HB b6)) g11 hne14
  refine nl (sg (xr 7 [(33,.load (i6 ((ms.getD i mark0).2.1))),(35,.load (sT ((ms.getD i mark0).1)))] [(31,aL D xs d),(33,i6 ((ms.getD i mark0).2.1)),(37,.bool (((ms.getD i mark0).1).toList==au.toList))] [29] [_,_] ⟨lc 3 k12 1,lc 9 k12 0,trivial⟩ ?_))
  refine xc 43 ent43 [.slice D xs.length d,i6 ((ms.getD i mark0).2.1),.bool (((ms.getD i mark0).1).toList==au.toList)] (r14place_any _ _ xs ((ms.getD i mark0).2.1) (((ms.getD i mark0).1).toList==au.toList) _ (Kd.C_below hx (bg (bt HB b6) g11 (HB).size)) hxn hz hb) ?_
  rintro e w16 ⟨rfl,b17⟩; refine⟨_,rfl,?_⟩
  refine xe0 5 [(0,pw gr 0),(1,aL D xs d),(2,sT au),(7,aL A3 zs c3),(8,nv i),(9,pw wl.heap.size 0),(10,i6 ((plE xs ((ms.getD i mark0).2.1) (((ms.getD i mark0).1).toList==au.toList)).1)),(11,i6 ((plE xs ((ms.getD i mark0).2.1) (((ms.getD i mark0).1).toList==au.toList)).2:Int))] ?_
  refine nl (sg (xr 7 [(44,.load (i6 ((ms.getD i mark0).2.2))),(46,.load (sT ((ms.getD i mark0).1)))] [(42,aL D xs d),(44,i6 ((ms.getD i mark0).2.2)),(48,.bool (((ms.getD i mark0).1).toList==au.toList))] [] [_,_] ⟨lc 3 (Blk.below k12 b17) 2,lc 9 (Blk.below k12 b17) 0,trivial⟩ ?_))
  have B18:Below w.heap.size w w16:=(bt (bg (bt HB b6) g11 (HB).size) b17)
  refine xc 43 ent43 [.slice D xs.length d,i6 ((ms.getD i mark0).2.2),.bool (((ms.getD i mark0).1).toList==au.toList)] (r14place_any _ _ xs ((ms.getD i mark0).2.2) (((ms.getD i mark0).1).toList==au.toList) _ (Kd.C_below hx B18) hxn hz hb) ?_
  rintro e w19 ⟨rfl,b20⟩; refine⟨_,rfl,?_⟩
  refine xr0 5 [(12,i6 ((plE xs ((ms.getD i mark0).2.2) (((ms.getD i mark0).1).toList==au.toList)).1)),(13,i6 ((plE xs ((ms.getD i mark0).2.2) (((ms.getD i mark0).1).toList==au.toList)).2:Int))] [42,44,48,49] ?_
  refine nl (sq (sg (xr0 1 [(52,i6 ((plE xs ((ms.getD i mark0).2.1) (((ms.getD i mark0).1).toList==au.toList)).2:Int))] [11] ?_)))
  by_cases c21:((plE xs ((ms.getD i mark0).2.1) (((ms.getD i mark0).1).toList==au.toList)).2:Int)=0
  ·refine xr1 3 [(53,.eq bF)] [(54,bF),(55,i6 ((plE xs ((ms.getD i mark0).2.2) (((ms.getD i mark0).1).toList==au.toList)).2:Int))] [13,52] (nF c21) ?_
   by_cases c22:((plE xs ((ms.getD i mark0).2.2) (((ms.getD i mark0).1).toList==au.toList)).2:Int)=0
   ·refine xr1 2 [(56,.eq bF)] [(57,bF)] [54,55] (nF c22) ?_
    refine nl (cf (sk (rg (xwe 7 [(60,.load (sT ((ms.getD i mark0).1)))] [(0,pw gr 0),(1,aL D xs d),(2,sT au),(8,nv i),(58,aL A3 zs c3),(64,.slice (some ⟨w19.heap.size,0,none⟩) 1 1)] (w19.alloc (.cells #[sT ((ms.getD i mark0).1),i6 ((plE xs ((ms.getD i mark0).2.1) (((ms.getD i mark0).1).toList==au.toList)).1),i6 ((plE xs ((ms.getD i mark0).2.2) (((ms.getD i mark0).1).toList==au.toList)).1)] 31)) [_] ⟨lc 9 (Blk.below k12 (bt b17 b20)) 0,trivial⟩ ?_))))
    obtain⟨w23,w27,b24,k25,z26⟩:=new_world w19 #[sT ((ms.getD i mark0).1),i6 ((plE xs ((ms.getD i mark0).2.1) (((ms.getD i mark0).1).toList==au.toList)).1),i6 ((plE xs ((ms.getD i mark0).2.2) (((ms.getD i mark0).1).toList==au.toList)).1)] 31
    rw[w27]
    rw[←w27]
    have B36:Below wl.heap.size wl w19:=(bt (bt (bg b6 g11 (Nat.le_refl _)) b17) b20)
    refine XL_append kMark rfl rfl rfl w.heap.size 31 (.agg #[s0,i6 0,i6 0]) 32 Tryz.underlying27 info31 rfl (by decide) (by omega) zs ((ms.getD i mark0).1,(plE xs ((ms.getD i mark0).2.1) (((ms.getD i mark0).1).toList==au.toList)).1,(plE xs ((ms.getD i mark0).2.2) (((ms.getD i mark0).1).toList==au.toList)).1) [sT ((ms.getD i mark0).1),i6 ((plE xs ((ms.getD i mark0).2.1) (((ms.getD i mark0).1).toList==au.toList)).1),i6 ((plE xs ((ms.getD i mark0).2.2) (((ms.getD i mark0).1).toList==au.toList)).1)] (fun _=>False) (by kernel_rfl) (kMark_M _ _ _ _) (fun _ h=>h.elim) (Kd.R_below hr3 B36) ((bt B18 b20)).size (by first|omega|(simp; omega)) ?_
    intro A28 c29 w30 r31 c32 g33 l34 a35
    have B37:Below w.heap.size w w30:=(bgo (bt B18 b20) g33 l34 (Nat.le_refl _))
    have e40:(zs++[((ms.getD i mark0).1,(plE xs ((ms.getD i mark0).2.1) (((ms.getD i mark0).1).toList==au.toList)).1,(plE xs ((ms.getD i mark0).2.2) (((ms.getD i mark0).1).toList==au.toList)).1)])=((ms.take (i+1)).map (mvMk xs au)):=by rw[he3]; exact mv_snoc (by omega)
    rw[e40]at r31 ⊢
    refine xr0 1 [(7,aL A28 ((ms.take (i+1)).map (mvMk xs au)) c29)] [58,64,65] ?_
    refine nl (rg (xr1 3 [(22,.eq (i6 ((i:Int)+1)))] [(8,i6 ((i:Int)+1))] [] (w6 ((i:Int)+1)) ?_))
    refine nl ?_
    refine⟨(i+1,A28,c29,((ms.take (i+1)).map (mvMk xs au))),by kernel_rfl,?_,?_⟩
    ·have hok3_:mvOk xs au (ms.getD i mark0):=⟨Int.natCast_inj.1 c21,Int.natCast_inj.1 c22⟩
     exact⟨by omega,rfl,fun t_ ht_=>by by_cases e_:t_=i; (· rw[e_]; exact hok3_); (· exact hok t_ (by omega)),r31,B37⟩
    (try dsimp only); omega
   refine xr1 2 [(56,.eq bT)] [(57,bT)] [54,55] (nT c22) ?_
   refine nl (ct (sg (xe0 1 [(6,i6 11)] ?_)))
   refine nl (X_ret (rj [i6 11] hR_ ?_))
   have hno_:¬mvOk xs au (ms.getD i mark0):=fun h_=>c22 (by have h2_:=h_.2; exact congrArg Int.ofNat h2_)
   have hna_:=mv_not (by omega) hno_
   rw[show mvE xs au ms=11 from if_neg hna_,show mvMs xs au ms=ms from if_neg hna_]
   exact⟨rfl,(Chg.trans (Chg.trans (Chg.trans (Chg.trans (Chg.trans (Chg.refl (fun k_=>k_=gr∨A.map (·.block)=some k_) w) (Chg.below (S:=(fun k_=>k_=gr∨A.map (·.block)=some k_)) HB) (fun _ _ h_=>h_)) (Chg.below (S:=(fun k_=>k_=gr∨A.map (·.block)=some k_)) b6) (fun _ _ h_=>h_)) (Chg.grown (S:=(· =wl.heap.size)) g11 (fun k_ e_=>(Option.some.inj e_).symm)) (fun g_ h1_ h2_=>absurd h1_ (by subst h2_; exact Nat.not_lt.2 (HB).size))) (Chg.below (S:=(fun k_=>k_=gr∨A.map (·.block)=some k_)) b17) (fun _ _ h_=>h_)) (Chg.below (S:=(fun k_=>k_=gr∨A.map (·.block)=some k_)) b20) (fun _ _ h_=>h_)),A,c,(Blk.below k15 (bt b17 b20)),(Kd.R_below hR (bt B18 b20)),fun _ h_=>.inl h_⟩
  refine xr1 5 [(53,.eq bT)] [(57,bT)] [13,52] (nT c21) ?_
  refine nl (ct (sg (xe0 1 [(6,i6 11)] ?_)))
  refine nl (X_ret (rj [i6 11] hR_ ?_))
  have hno_:¬mvOk xs au (ms.getD i mark0):=fun h_=>c21 (by have h2_:=h_.1; exact congrArg Int.ofNat h2_)
  have hna_:=mv_not (by omega) hno_
  rw[show mvE xs au ms=11 from if_neg hna_,show mvMs xs au ms=ms from if_neg hna_]
  exact⟨rfl,(Chg.trans (Chg.trans (Chg.trans (Chg.trans (Chg.trans (Chg.refl (fun k_=>k_=gr∨A.map (·.block)=some k_) w) (Chg.below (S:=(fun k_=>k_=gr∨A.map (·.block)=some k_)) HB) (fun _ _ h_=>h_)) (Chg.below (S:=(fun k_=>k_=gr∨A.map (·.block)=some k_)) b6) (fun _ _ h_=>h_)) (Chg.grown (S:=(· =wl.heap.size)) g11 (fun k_ e_=>(Option.some.inj e_).symm)) (fun g_ h1_ h2_=>absurd h1_ (by subst h2_; exact Nat.not_lt.2 (HB).size))) (Chg.below (S:=(fun k_=>k_=gr∨A.map (·.block)=some k_)) b17) (fun _ _ h_=>h_)) (Chg.below (S:=(fun k_=>k_=gr∨A.map (·.block)=some k_)) b20) (fun _ _ h_=>h_)),A,c,(Blk.below k15 (bt b17 b20)),(Kd.R_below hR (bt B18 b20)),fun _ h_=>.inl h_⟩
 refine xr1 1 [(20,.eq bF)] [(20,bF)] [14,19] (dF c1) ?_
 refine nl (cf (X_exit (sg (xe0 4 [(67,aL A3 zs c3),(69,pw gr 0)] ?_))))
 refine xst (aL A3 zs c3) (Blk.below hk HB) 0 #[aL A3 zs c3] (fun w41 g42 k43 z44=>?_)
 have r45:=Kd.R_off hr3 (Blk.below hk HB) (by decide) g42
 refine nl (sg (xe0 1 [(6,i6 0)] ?_))
 refine nl (X_ret (rj [i6 0] hR_ ?_))
 have hxi:ms.take i=ms:=List.take_of_length_le (by omega)
 have hal_:=mv_all (ms:=ms) (xs:=xs) (au:=au) (fun t_ ht_=>hok t_ (by omega))
 rw[show mvE xs au ms=0 from if_pos hal_,show mvMs xs au ms=ms.map (mvMk xs au)from if_pos hal_]
 have hrz_:=r45
 have hkz_:=k43
 rw[he3,hxi]at hrz_ hkz_
 exact⟨rfl,(Chg.trans (Chg.trans (Chg.refl (fun k_=>k_=gr∨A.map (·.block)=some k_) w) (Chg.below (S:=(fun k_=>k_=gr∨A.map (·.block)=some k_)) HB) (fun _ _ h_=>h_)) (Chg.grown (S:=(fun k_=>k_=gr∨A.map (·.block)=some k_)) g42 (fun k_ e_=>.inl (Option.some.inj e_).symm)) (fun _ _ h_=>h_)),_,_,hkz_,Kd.R_low hrz_ hB,fun k_ h_=>.inr (Nat.le_trans (Nat.le_refl _) (RX.Kd.R_ge hrz_ k_ h_))⟩
end Go.Proofs.YtlnnjfdonilgmaaGreatDoor
