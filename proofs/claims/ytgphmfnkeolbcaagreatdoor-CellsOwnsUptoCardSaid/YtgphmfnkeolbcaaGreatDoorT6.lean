import Derived.Test.YtgphmfnkeolbcaaGreatDoorT5
import Derived.Test.YtgphmfnkeolbcaaGreatDoorR1
import Derived.Test.YtgphmfnkeolbcaaGreatDoorA1
/- The reference of layer build: single operations, lengths. Conditions: sizes, the tables of utf8, the errors' variables. -/
set_option linter.unusedVariables false
set_option linter.unusedSimpArgs false
set_option maxRecDepth 100000
namespace Go.Proofs.YtgphmfnkeolbcaaGreatDoor
open Go Go.RowKit Go.Proofs.YtgphmfnkeolbcaaGreatDoorW.PrintWords RX
theorem ent100 :Ent Tryz.prog 100:=ent_of Tryz.func100 (by kernel_rfl) rfl
theorem ent162 :Ent Tryz.prog 162:=ent_of Tryz.func162 (by kernel_rfl) rfl
theorem ent99 :Ent Tryz.prog 99:=ent_of Tryz.func99 (by kernel_rfl) rfl
theorem ent199 :Ent Tryz.prog 199:=ent_of Tryz.func199 (by kernel_rfl) rfl
theorem ent31 :Ent Tryz.prog 31:=ent_of Tryz.func31 (by kernel_rfl) rfl
def insO (o:OpA):Prop:=o.kind=1∨o.kind=2
instance (o:OpA):Decidable (insO o):=by unfold insO; exact inferInstance
theorem r6ins_any (o:OpA)(A:Option Addr)(c:Nat)(w:World)(hA:kAttr.C w A o.attrs.length o.attrs):Rt 100 #[.agg (o7A o (.slice A o.attrs.length c))] w (.bool (decide (insO o))):=by
 refine en Tryz.func100 rfl 11 [(0,.agg (o7A o (aL A o.attrs c)))] (fun R_ hR_=>?_)
 refine sg (xwe 1 [] [(1,pw w.heap.size 0)] (w.alloc (.cells (o7A o (aL A o.attrs c)) 102)) [] trivial ?_)
 obtain⟨w1,w5,b2,k3,z4⟩:=new_world w (o7A o (aL A o.attrs c)) 102
 rw[w5]
 refine xr0 1 [] [] ?_
 refine nl (sg (xr1 2 [(4,.load (i6 o.kind))] [(4,i6 o.kind)] [] (lc 3 k3 0) ?_))
 by_cases c6:o.kind=1
 ·refine xe1 7 [(5,.eq bT)] [(2,bT)] (bE c6) ?_
  refine nl (X_ret (rj [bT] hR_ ?_))
  rw[show decide (insO o)=true from decide_eq_true (by unfold insO; omega)]
  exact⟨rfl,b2⟩
 refine xe 4 [(5,.eq bF),(8,.load (i6 o.kind))] [(6,bF),(8,i6 o.kind)] [_,_] ⟨bN c6,lc 3 k3 0,trivial⟩ ?_
 by_cases c7:o.kind=2
 ·refine xe1 3 [(9,.eq bT)] [(2,bT)] (bE c7) ?_
  refine nl (X_ret (rj [bT] hR_ ?_))
  rw[show decide (insO o)=true from decide_eq_true (by unfold insO; omega)]
  exact⟨rfl,b2⟩
 refine xe1 3 [(9,.eq bF)] [(2,bF)] (bN c7) ?_
 refine nl (X_ret (rj [bF] hR_ ?_))
 rw[show decide (insO o)=false from decide_eq_false (by unfold insO; omega)]
 exact⟨rfl,b2⟩
theorem r6plain_any (o:OpA)(A:Option Addr)(c:Nat)(w:World)(hA:kAttr.C w A o.attrs.length o.attrs):Rt 199 #[.agg (o7A o (.slice A o.attrs.length c))] w (.bool (decide (plainR o))):=by
 refine en Tryz.func199 rfl 12 [(0,.agg (o7A o (aL A o.attrs c)))] (fun R_ hR_=>?_)
 refine sg (xwe 1 [] [(1,pw w.heap.size 0)] (w.alloc (.cells (o7A o (aL A o.attrs c)) 102)) [] trivial ?_)
 obtain⟨w1,w5,b2,k3,z4⟩:=new_world w (o7A o (aL A o.attrs c)) 102
 rw[w5]
 refine xr0 1 [] [] ?_
 refine nl (sg (xr1 2 [(4,.load (i6 o.kind))] [(4,i6 o.kind)] [] (lc 3 k3 0) ?_))
 by_cases c6:o.kind=3
 ·refine xe 5 [(5,.eq bT),(8,.load (aL A o.attrs c))] [(6,bT),(9,i6 (o.attrs.length:Int))] [_,_] ⟨bE c6,lc 49 k3 6,trivial⟩ ?_
  by_cases c7:(o.attrs.length:Int)=0
  ·refine xe1 3 [(10,.eq bT)] [(2,bT)] (bE c7) ?_
   refine nl (X_ret (rj [bT] hR_ ?_))
   rw[show decide (plainR o)=true from decide_eq_true (by unfold plainR; omega)]
   exact⟨rfl,b2⟩
  refine xe1 3 [(10,.eq bF)] [(2,bF)] (bN c7) ?_
  refine nl (X_ret (rj [bF] hR_ ?_))
  rw[show decide (plainR o)=false from decide_eq_false (by unfold plainR; omega)]
  exact⟨rfl,b2⟩
 refine xe1 8 [(5,.eq bF)] [(2,bF)] (bN c6) ?_
 refine nl (X_ret (rj [bF] hR_ ?_))
 rw[show decide (plainR o)=false from decide_eq_false (by unfold plainR; omega)]
 exact⟨rfl,b2⟩
theorem r6sameOp_any (a b:OpA)(A B:Option Addr)(c d:Nat)(w:World)(hA:kAttr.C w A a.attrs.length a.attrs)(hB:kAttr.C w B b.attrs.length b.attrs):Rt 162 #[.agg (o7A a (.slice A a.attrs.length c)),.agg (o7A b (.slice B b.attrs.length d))] w (.bool (opEqP a b)):=by
 refine en Tryz.func162 rfl 38 [(0,.agg (o7A a (aL A a.attrs c))),(1,.agg (o7A b (aL B b.attrs d)))] (fun R_ hR_=>?_)
 refine sg (xwe 1 [] [(1,.agg (o7A b (aL B b.attrs d))),(2,pw w.heap.size 0)] (w.alloc (.cells (o7A a (aL A a.attrs c)) 102)) [] trivial ?_)
 obtain⟨w1,w5,b2,k3,z4⟩:=new_world w (o7A a (aL A a.attrs c)) 102
 rw[w5]
 refine xw 1 [] [(3,pw w1.heap.size 0)] [1] (w1.alloc (.cells (o7A b (aL B b.attrs d)) 102)) [] trivial ?_
 obtain⟨w_6,w10,b7,k8,z9⟩:=new_world w1 (o7A b (aL B b.attrs d)) 102
 rw[w10]
 refine xr0 1 [] [] ?_
 refine nl (sg (xr 4 [(6,.load (i6 a.kind)),(8,.load (i6 b.kind))] [(6,i6 a.kind),(8,i6 b.kind)] [] [_,_] ⟨lc 3 (Blk.below k3 b7) 0,lc 3 k8 0,trivial⟩ ?_))
 by_cases c11:a.kind=b.kind
 ·refine xr 6 [(9,.eq bT),(12,.load (sT a.text)),(14,.load (sT b.text))] [(10,bT),(12,sT a.text),(14,sT b.text)] [6,8] [_,_,_] ⟨bE c11,lc 9 (Blk.below k3 b7) 1,lc 9 k8 1,trivial⟩ ?_
  by_cases c12:a.text=b.text
  ·refine xr 7 [(15,.eq bT),(19,.load (.agg #[i6 a.vk,i6 a.vn,sT a.vt])),(21,.load (.agg #[i6 b.vk,i6 b.vn,sT b.vt]))] [(17,bT),(19,.agg #[i6 a.vk,i6 a.vn,sT a.vt]),(21,.agg #[i6 b.vk,i6 b.vn,sT b.vt])] [10,12,14] [Value.bool (a.text.toList==b.text.toList)=bT,la 48 (⟨w.heap.size,2,none⟩) (.agg #[i6 a.vk,i6 a.vn,sT a.vt]) w_6,la 48 (⟨w1.heap.size,2,none⟩) (.agg #[i6 b.vk,i6 b.vn,sT b.vt]) w_6] ⟨congrArg Value.bool (strEqT (c12)),loadsB rfl rfl (Blk.below k3 b7) 2 ⟨by kernel_rfl,by kernel_rfl⟩,loadsB rfl rfl k8 2 ⟨by kernel_rfl,by kernel_rfl⟩,trivial⟩ ?_
   by_cases c13:(a.vk,a.vn,a.vt)=(b.vk,b.vn,b.vt)
   ·refine xe 7 [(22,.as bT),(26,.load (i6 a.count)),(28,.load (i6 b.count))] [(2,pw w.heap.size 0),(3,pw w1.heap.size 0),(24,bT),(26,i6 a.count),(28,i6 b.count)] [RunsAs Tryz.prog [(19,.agg #[i6 a.vk,i6 a.vn,sT a.vt]),(21,.agg #[i6 b.vk,i6 b.vn,sT b.vt])] (Go.Op.binOp Go.BinOp.eql 48 (Go.Operand.tmp 19) (Go.Operand.tmp 21) 48) 4 bT w_6,_,_] ⟨runs_bin rfl rfl (run_eqGuard_agg _ _ _ _ _ _ _ (by kernel_rfl)) (by have h:=plain_eqb (a.vk,a.vn,a.vt) (b.vk,b.vn,b.vt) w_6; rw[show ple (a.vk,a.vn,a.vt) (b.vk,b.vn,b.vt)=true from(ple_iff _ _).2 c13]at h; exact h),lc 3 (Blk.below k3 b7) 5,lc 3 k8 5,trivial⟩ ?_
    by_cases c14:a.count=b.count
    ·refine xe 7 [(29,.eq bT),(33,.load (aL A a.attrs c)),(35,.load (aL B b.attrs d))] [(31,bT),(33,aL A a.attrs c),(35,aL B b.attrs d)] [_,_,_] ⟨bE c14,lc 49 (Blk.below k3 b7) 6,lc 49 k8 6,trivial⟩ ?_
     refine xc 98 ent98 [.slice A a.attrs.length c,aL B b.attrs d] (refSame_any _ _ _ _ a.attrs b.attrs _ (Kd.C_below hA (bt b2 b7)) (Kd.C_below hB (bt b2 b7))) ?_
     rintro e w15 ⟨rfl,b16⟩; refine⟨_,rfl,?_⟩
     refine xe0 2 [(4,.bool (decide (a.attrs=b.attrs)))] ?_
     refine nl (X_ret (rj [.bool (decide (a.attrs=b.attrs))] hR_ ?_))
     rw[show opEqP a b=decide (a.attrs=b.attrs)from by unfold opEqP; simp_all]
     exact⟨rfl,(bt (bt b2 b7) b16)⟩
    refine xe1 10 [(29,.eq bF)] [(4,bF)] (bN c14) ?_
    refine nl (X_ret (rj [bF] hR_ ?_))
    rw[show opEqP a b=false from by unfold opEqP; simp_all]
    exact⟨rfl,(bt b2 b7)⟩
   refine xe 17 [(22,.as bF)] [(4,bF)] [RunsAs Tryz.prog [(19,.agg #[i6 a.vk,i6 a.vn,sT a.vt]),(21,.agg #[i6 b.vk,i6 b.vn,sT b.vt])] (Go.Op.binOp Go.BinOp.eql 48 (Go.Operand.tmp 19) (Go.Operand.tmp 21) 48) 4 bF w_6] ⟨runs_bin rfl rfl (run_eqGuard_agg _ _ _ _ _ _ _ (by kernel_rfl)) (by have h:=plain_eqb (a.vk,a.vn,a.vt) (b.vk,b.vn,b.vt) w_6; rw[show ple (a.vk,a.vn,a.vt) (b.vk,b.vn,b.vt)=false from Bool.eq_false_iff.2 (fun k=>c13 ((ple_iff _ _).1 k))]at h; exact h),trivial⟩ ?_
   refine nl (X_ret (rj [bF] hR_ ?_))
   rw[show opEqP a b=false from by unfold opEqP; simp_all]
   exact⟨rfl,(bt b2 b7)⟩
  refine xe 24 [(15,.eq bF)] [(4,bF)] [Value.bool (a.text.toList==b.text.toList)=bF] ⟨congrArg Value.bool (strEqF (c12)),trivial⟩ ?_
  refine nl (X_ret (rj [bF] hR_ ?_))
  rw[show opEqP a b=false from by unfold opEqP; simp_all]
  exact⟨rfl,(bt b2 b7)⟩
 refine xe1 30 [(9,.eq bF)] [(4,bF)] (bN c11) ?_
 refine nl (X_ret (rj [bF] hR_ ?_))
 rw[show opEqP a b=false from by unfold opEqP; simp_all]
 exact⟨rfl,(bt b2 b7)⟩
theorem r6same_any (A B:Option Addr)(c d:Nat)(xs ys:List OpA)(w:World)(hx:kOp.C w A xs.length xs)(hy:kOp.C w B ys.length ys):Rt 99 #[.slice A xs.length c,.slice B ys.length d] w (.bool (opsEqP xs ys)):=by
 have hpl:xs.length≤9223372036854775807:=hx.2.1
 refine en Tryz.func99 rfl 27 [(0,aL A xs c),(1,aL B ys d)] (fun R_ hR_=>?_)
 refine sg (xe0 1 [(0,aL A xs c),(1,aL B ys d)] ?_)
 refine nl (sq (sg (xr0 4 [(7,i6 (xs.length:Int)),(9,i6 (ys.length:Int))] [] ?_)))
 by_cases c1:(xs.length:Int)=(ys.length:Int)
 ·refine xr1 1 [(10,.eq bF)] [(10,bF)] [7,9] (nF c1) ?_
  refine nl (cf (sk (sq (sg (xr0 3 [(12,i6 (xs.length:Int)),(13,i6 0)] [10] ?_)))))
  refine nl (bk (X_loop (ι:=Nat) (fun i=>[(0,aL A xs c),(1,aL B ys d),(12,i6 (xs.length:Int)),(13,i6 (i:Int))]) (fun i wl=>i≤xs.length∧xs.length=ys.length∧(∀ q,q<i→xs.getD q op0=ys.getD q op0)∧Below w.heap.size w wl) (fun i=>xs.length-i) 0 ⟨by omega,by omega,fun q hq=>by omega,(Below.refl _ _)⟩ (by kernel_rfl) ?_))
  rintro i wl ⟨hi,hlen,hq0,HB⟩
  refine sq (X_region ?_)
  by_cases c2:(i:Int)<(xs.length:Int)
  ·refine xr1 1 [(14,.eq bT)] [(14,bT)] [] (dT c2) ?_
   refine nl (sq (ct (sk (sq (bk (sg (xr0 2 [(5,nv i)] [14] ?_)))))))
   refine nl (sq (X_any [8] 10 (tf 0 10) (by kernel_rfl) (by kernel_rfl) (by kernel_rfl) (fun wd3 b4 h5=>?_)))
   refine XA_runC (fuel':=8) [0,1] [] [.slice A xs.length c,i6 (i:Int)] (tf 2 8) [(16,aL A xs c),(17,nv i)] [] [] trivial ?_
   obtain⟨ad6,B9,c10,a7,c8,l11,C12⟩:=Kd.atOp (Kd.C_below hx (bt HB b4)) (i:=(i:Int)) (by omega) (by omega)
   replace c8:CellsAt wd3 (ad6.add ((i:Int).toNat*7)) (o7L (xs.getD i op0) (aL B9 (xs.getD i op0).attrs c10)):=c8
   replace l11:(xs.getD i op0).attrs.length≤c10:=l11
   replace C12:kAttr.C wd3 B9 ((xs.getD i op0).attrs.length) (xs.getD i op0).attrs:=C12
   refine XA_runC (fuel':=4) [2,3,4,5] [(18,.idx ad6),(19,.load (.agg (o7A (xs.getD i op0) (aL B9 (xs.getD i op0).attrs c10))))] [.pointer (some (ad6.add ((i:Int).toNat*7))),.agg (o7A (xs.getD i op0) (aL B9 (xs.getD i op0).attrs c10)),.slice B ys.length d,i6 (i:Int)] (tf 6 4) [(19,.agg (o7A (xs.getD i op0) (aL B9 (xs.getD i op0).attrs c10))),(20,aL B ys d),(21,nv i)] [5,16,17] [A=some ad6,(0:Int)≤(i:Int),(i:Int)<(xs.length:Int),la 102 (ad6.add ((i:Int).toNat*7)) (.agg (o7A (xs.getD i op0) (aL B9 (xs.getD i op0).attrs c10))) wd3] ⟨a7,(by omega),(by omega),loadsE rfl rfl c8 0 ⟨by kernel_rfl,by kernel_rfl⟩,trivial⟩ ?_
   obtain⟨ad13,B16,c17,a14,c15,l18,C19⟩:=Kd.atOp (Kd.C_below hy (bt HB b4)) (i:=(i:Int)) (by omega) (by omega)
   replace c15:CellsAt wd3 (ad13.add ((i:Int).toNat*7)) (o7L (ys.getD i op0) (aL B16 (ys.getD i op0).attrs c17)):=c15
   replace l18:(ys.getD i op0).attrs.length≤c17:=l18
   replace C19:kAttr.C wd3 B16 ((ys.getD i op0).attrs.length) (ys.getD i op0).attrs:=C19
   refine XA_runC (fuel':=2) [6,7] [(22,.idx ad13),(23,.load (.agg (o7A (ys.getD i op0) (aL B16 (ys.getD i op0).attrs c17))))] [.pointer (some (ad13.add ((i:Int).toNat*7))),.agg (o7A (ys.getD i op0) (aL B16 (ys.getD i op0).attrs c17))] (tf 8 2) [(23,.agg (o7A (ys.getD i op0) (aL B16 (ys.getD i op0).attrs c17)))] [20,21] [B=some ad13,(0:Int)≤(i:Int),(i:Int)<(ys.length:Int),la 102 (ad13.add ((i:Int).toNat*7)) (.agg (o7A (ys.getD i op0) (aL B16 (ys.getD i op0).attrs c17))) wd3] ⟨a14,(by omega),(by omega),loadsE rfl rfl c15 0 ⟨by kernel_rfl,by kernel_rfl⟩,trivial⟩ ?_
   refine XA_act (fuel':=1) 8 (tf 9 1) _ rfl (by kernel_rfl) rfl (by kernel_rfl) rfl ?_
   refine xc 162 ent162 [.agg (o7A (xs.getD i op0) (aL B9 (xs.getD i op0).attrs c10)),.agg (o7A (ys.getD i op0) (aL B16 (ys.getD i op0).attrs c17))] (r6sameOp_any (xs.getD i op0) (ys.getD i op0) _ _ _ _ _ C12 C19) ?_
   rintro e w20 ⟨rfl,b21⟩; refine⟨_,rfl,?_⟩
   refine nl ?_
   by_cases c22:opEqP (xs.getD i op0) (ys.getD i op0)=true
   ·rw[show (opEqP (xs.getD i op0) (ys.getD i op0):Bool)=true from by simpa using c22]
    refine XA_pure (fuel':=0) [9] [] [bF] (tf 10 0) [(0,aL A xs c),(1,aL B ys d),(12,i6 (xs.length:Int)),(13,i6 (i:Int)),(25,bF)] (fun w_=>[]) (fun w_=>trivial) ?_
    refine XA_done (by kernel_rfl) ?_
    refine cf (sk (rg (xr1 2 [(26,.eq (i6 ((i:Int)+1)))] [(13,i6 ((i:Int)+1))] [25] (w6 ((i:Int)+1)) ?_)))
    refine nl ?_
    refine⟨(i+1),by kernel_rfl,?_,?_⟩
    ·exact⟨by omega,by omega,fun q hq=>by by_cases e_:q=i; (· subst e_; exact(opEqP_iff _ _).1 c22); (· exact hq0 q (by omega)),(bt (bt HB b4) b21)⟩
    (try dsimp only); omega
   rw[show (opEqP (xs.getD i op0) (ys.getD i op0):Bool)=false from by simpa using c22]
   refine XA_pure (fuel':=0) [9] [] [bT] (tf 10 0) [(0,aL A xs c),(1,aL B ys d),(12,i6 (xs.length:Int)),(13,i6 (i:Int)),(25,bT)] (fun w_=>[]) (fun w_=>trivial) ?_
   refine XA_done (by kernel_rfl) ?_
   refine ct (sg (xe0 1 [(4,bF)] ?_))
   refine nl (X_ret (rj [bF] hR_ ?_))
   rw[(opsEqP_false xs ys).2 (fun e_=>c22 ((opEqP_iff _ _).2 (by rw[e_])))]
   exact⟨rfl,(bt (bt HB b4) b21)⟩
  refine xr1 1 [(14,.eq bF)] [(14,bF)] [] (dF c2) ?_
  refine nl (sq (cf (X_exit (sg (xe0 1 [(4,bT)] ?_)))))
  refine nl (X_ret (rj [bT] hR_ ?_))
  rw[(opsEqP_iff xs ys).2 (ops_ext hlen (fun q hq=>hq0 q (by omega)))]
  exact⟨rfl,HB⟩
 refine xr1 1 [(10,.eq bT)] [(10,bT)] [7,9] (nT c1) ?_
 refine nl (ct (sg (xe0 1 [(4,bF)] ?_)))
 refine nl (X_ret (rj [bF] hR_ ?_))
 rw[(opsEqP_false xs ys).2 (fun e_=>by subst e_; omega)]
 exact⟨rfl,(Below.refl _ _)⟩
theorem his_any (d:Nat)(xs ys:List OpA)(Bl:Option Addr)(c:Nat)(w:World)(hd:DeltaC w d xs)(hb:badE xs=0)(hn:xs.length≤1100000)(hz:∀ i,i<xs.length→opSz (xs.getD i op0))(hy:kOp.C w Bl ys.length ys):
  Rt 31 #[pw d 0,aL Bl ys c] w (.bool (opsEqP xs ys)):=by
 refine en Tryz.func31 rfl 20 [(0,pw d 0),(1,aL Bl ys c)] (fun R_ hR_=>?_)
 refine sg (xe0 1 [(0,pw d 0),(1,aL Bl ys c)] ?_)
 refine nl (sg (xr0 4 [(7,bT),(8,pw d 0)] [] ?_))
 refine xc 56 ent56 [pw d 0] (dops_any _ xs _ hd hb hn hz) ?_
 rintro e w3 ⟨A1,c2,rfl,l4,r5,b6⟩; refine⟨_,rfl,?_⟩
 refine xr0 1 [(9,aL A1 xs c2),(10,aL Bl ys c)] [8] ?_
 refine xc 99 ent99 [.slice A1 xs.length c2,aL Bl ys c] (r6same_any _ _ _ _ xs ys _ (Kd.R_C r5) (Kd.C_below hy b6)) ?_
 rintro e w7 ⟨rfl,b8⟩; refine⟨_,rfl,?_⟩
 refine xr0 2 [(13,.bool (opsEqP xs ys))] [7,9,10,11] ?_
 by_cases c9:opsEqP xs ys=true
 ·have hxy:=(opsEqP_iff xs ys).1 c9
  rw[show (opsEqP xs ys:Bool)=true from by simpa using c9]
  refine xr0 1 [(13,bT),(14,pw d 0)] [0] ?_
  refine xc 74 ent74 [pw d 0] (dcount_any _ xs _ (hd.below (bt b6 b8))) ?_
  rintro e w_10 ⟨rfl,b11⟩; refine⟨_,rfl,?_⟩
  refine xr0 2 [(15,i6 (xs.length:Int)),(17,i6 (ys.length:Int))] [1,14] ?_
  by_cases c12:(xs.length:Int)=(ys.length:Int)
  ·refine xe1 3 [(18,.eq bT)] [(4,bT)] (bE c12) ?_
   refine nl (X_ret (rj [bT] hR_ ?_))
   rw[show opsEqP xs ys=true from c9]
   exact⟨rfl,(bt (bt b6 b8) b11)⟩
  exfalso; rw[hxy]at *; omega
 rw[show (opsEqP xs ys:Bool)=false from by simpa using c9]
 refine xe0 7 [(4,bF)] ?_
 refine nl (X_ret (rj [bF] hR_ ?_))
 rw[show opsEqP xs ys=false from Bool.eq_false_iff.2 c9]
 exact⟨rfl,(bt b6 b8)⟩
end Go.Proofs.YtgphmfnkeolbcaaGreatDoor
