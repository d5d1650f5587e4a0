import Derived.Test.YtlnnjfdonilgmaaGreatDoorA1
import Derived.Test.YtlnnjfdonilgmaaGreatDoorAn
import Derived.Test.YtlnnjfdonilgmaaGreatDoorChg
/- What values.Check, attrs.Check answer. Conditions: the tables of utf8, Errs. -/
set_option linter.unusedVariables false
set_option linter.unusedSimpArgs false
set_option maxRecDepth 100000
namespace Go.Proofs.YtlnnjfdonilgmaaGreatDoor
open Go Go.RowKit Go.Proofs.YtlnnjfdonilgmaaGreatDoorW.PrintWords RX
theorem ent115 :Ent Tryz.prog 115:=ent_of Tryz.func115 (by kernel_rfl) rfl
theorem ent120 :Ent Tryz.prog 120:=ent_of Tryz.func120 (by kernel_rfl) rfl
theorem ent114 :Ent Tryz.prog 114:=ent_of Tryz.func114 (by kernel_rfl) rfl
theorem ent95 :Ent Tryz.prog 95:=ent_of Tryz.func95 (by kernel_rfl) rfl
theorem info148 :(Tryz.prog.info? 148).map (fun i=>(i.zero,i.size,i.bytes))=some (some (.agg #[s0,i6 0,i6 0,s0]),4,48):=by kernel_rfl
def plainOk (k n:Int)(t:ByteArray):Bool:=decide ((k=0∧n=0∧t=⟨#[]⟩)∨(k=1∧(n=0∨n=1)∧t=⟨#[]⟩)∨(k=2∧t=⟨#[]⟩)∨(k=3∧n=0))
def plainErr (k n:Int)(t:ByteArray):Nat:=if plainOk k n t=false then 5 else if (uchk t).2=false then 1 else if 1048576<t.size then 10 else 0
def pairErr (x:At):Nat:=if x.1=⟨#[]⟩∨64<x.1.size then 6 else if (uchk x.1).2=false then 1 else plainErr x.2.1 x.2.2.1 x.2.2.2
theorem null_any (x:At)(w:World):Rt 115 #[.agg (a4 x)] w (.bool (decide (x.2.1=0))):=by
 refine en Tryz.func115 rfl 7 [(0,.agg (a4 x))] (fun R_ hR_=>?_)
 refine sg (xwe 1 [] [(1,pw w.heap.size 0)] (w.alloc (.cells (a4 x) 148)) [] trivial ?_)
 obtain⟨w1,w5,b2,k3,z4⟩:=new_world w (a4 x) 148
 rw[w5]
 refine xr0 1 [] [] ?_
 refine nl (sg (xe1 3 [(5,.load (i6 x.2.1))] [(5,i6 x.2.1)] (lc 3 k3 1) ?_))
 by_cases c6:x.2.1=0
 ·refine xe1 2 [(6,.eq bT)] [(2,bT)] (bE c6) ?_
  refine nl (X_ret (rj [bT] hR_ ?_))
  rw[show (decide (x.2.1=0))=true from decide_eq_true c6]
  exact⟨rfl,b2⟩
 refine xe1 2 [(6,.eq bF)] [(2,bF)] (bN c6) ?_
 refine nl (X_ret (rj [bF] hR_ ?_))
 rw[show (decide (x.2.1=0))=false from decide_eq_false c6]
 exact⟨rfl,b2⟩
theorem vcheck_any (k n:Int)(t:ByteArray)(w:World)(hs:t.size≤9223372036854775807)(hT:Tabs w)(es:List Addr)(hE:ErrsA w es):Rt 120 #[.agg #[i6 k,i6 n,sT t]] w (errV es (plainErr k n t)):=by
 refine en Tryz.func120 rfl 63 [(0,.agg #[i6 k,i6 n,sT t])] (fun R_ hR_=>?_)
 refine sg (xwe 1 [] [(1,pw w.heap.size 0)] (w.alloc (.cells #[i6 k,i6 n,sT t] 67)) [] trivial ?_)
 obtain⟨w1,w5,b2,k3,z4⟩:=new_world w #[i6 k,i6 n,sT t] 67
 rw[w5]
 refine xr0 1 [] [] ?_
 refine nl (sq (X_still (by kernel_rfl) (by kernel_rfl) (fun wd6 b7 h8=>?_)))
 refine xsC 2 [(9,.load (i6 n))] [(9,i6 n)] [] [_] ⟨lc 2 (Blk.below k3 b7) 1,trivial⟩ ?_
 by_cases c9:n=0
 ·refine xsC 3 [(10,.eq bF),(12,.load (sT t))] [(10,bF),(12,sT t)] [9] [_,_] ⟨nF c9,lc 9 (Blk.below k3 b7) 2,trivial⟩ ?_
  by_cases c10:t=(⟨#[]⟩:ByteArray)
  ·refine xsC 3 [(13,.eq bF)] [(3,bF),(4,bF)] [10,12] [Value.bool (!t.toList==(⟨#[]⟩:ByteArray).toList)=bF] ⟨congrArg Value.bool (strNeF (c10)),trivial⟩ ?_
   refine XS_nil ?_
   refine sg (xr0 1 [(5,bF)] [] ?_)
   refine nl (X_join (ι:=Bool) (fun ok=>[(1,pw w.heap.size 0),(5,.bool ok)]) (fun ok wj=>ok=plainOk k n t∧Below wd6.heap.size wd6 wj) ?_ ?_)
   ·refine sg (xe1 2 [(15,.load (i6 k))] [(1,pw w.heap.size 0),(3,bF),(4,bF),(5,bF),(15,i6 k)] (lc 3 (Blk.below k3 b7) 0) ?_)
    refine nl (bk (sq (X_region ?_)))
    by_cases c11:k=0
    ·refine xr1 2 [(17,.eq bT)] [(16,bT)] [] (bE c11) ?_
     refine nl (ct (rg (xr0 7 [(5,bT)] [3,4,15,16] ?_)))
     refine nl ?_
     exact⟨true,by kernel_rfl,⟨(decide_eq_true (by simp_all)).symm,(Below.refl _ _)⟩⟩
    refine xr1 2 [(17,.eq bF)] [(16,bF)] [] (bN c11) ?_
    refine nl (cf (sq (X_region ?_)))
    by_cases c12:k=1
    ·refine xr1 2 [(25,.eq bT)] [(24,bT)] [16] (bE c12) ?_
     refine nl (ct (rg (xr 13 [(27,.load (i6 n)),(28,.eq bT)] [(5,bT)] [3,4,15,24] [_,_] ⟨lc 2 (Blk.below k3 b7) 1,bE c9,trivial⟩ ?_)))
     refine nl ?_
     exact⟨true,by kernel_rfl,⟨(decide_eq_true (by simp_all)).symm,(Below.refl _ _)⟩⟩
    refine xr1 2 [(25,.eq bF)] [(24,bF)] [16] (bN c12) ?_
    refine nl (cf (sq (X_region ?_)))
    by_cases c13:k=2
    ·refine xr1 2 [(39,.eq bT)] [(38,bT)] [24] (bE c13) ?_
     refine nl (ct (rg (xr0 3 [(5,bT)] [3,4,15,38] ?_)))
     refine nl ?_
     exact⟨true,by kernel_rfl,⟨(decide_eq_true (by simp_all)).symm,(Below.refl _ _)⟩⟩
    refine xr1 2 [(39,.eq bF)] [(38,bF)] [24] (bN c13) ?_
    refine nl (cf (sq (X_region ?_)))
    by_cases c14:k=3
    ·refine xr1 2 [(43,.eq bT)] [(42,bT)] [4,15,38] (bE c14) ?_
     refine nl (ct (rg (xr0 3 [(5,bT)] [3,42] ?_)))
     refine nl ?_
     exact⟨true,by kernel_rfl,⟨(decide_eq_true (by simp_all)).symm,(Below.refl _ _)⟩⟩
    refine xr1 2 [(43,.eq bF)] [(42,bF)] [4,15,38] (bN c14) ?_
    refine nl (cf (X_skip ?_))
    exact⟨false,by kernel_rfl,⟨(decide_eq_false (by simp_all)).symm,(Below.refl _ _)⟩⟩
   rintro ok wj ⟨hok,HBj⟩
   refine sq (sg (xr0 1 [(46,.bool ok)] [5] ?_))
   by_cases c15:ok=true
   ·rw[show (ok:Bool)=true from by simpa using c15]
    refine xr0 1 [(47,bF)] [46] ?_
    refine nl (cf (sk (sq (sg (xr1 2 [(51,.load (sT t))] [(51,sT t)] [47] (lc 9 (Blk.below k3 (bt b7 HBj)) 2) ?_)))))
    refine xc 49 ent49 [sT t] (scheck_any t _ (by omega) (hT.below (bt (bt b2 b7) HBj)) es (hE.below (bt (bt b2 b7) HBj))) ?_
    rintro e w16 ⟨rfl,b17⟩; refine⟨_,rfl,?_⟩
    refine xr0 5 [(7,errV es (if (uchk t).2 then 0 else 1))] [51,52] ?_
    refine nl (sg (xr0 1 [(55,errV es (if (uchk t).2 then 0 else 1))] [7] ?_))
    by_cases c18:(if (uchk t).2 then 0 else 1)=0
    ·rw[show errV es (if (uchk t).2 then 0 else 1)=.nilIface from by rw[c18]; rfl]
     refine xe0 1 [(1,pw w.heap.size 0),(56,bF)] ?_
     refine nl (cf (sk (sq (sg (xe1 3 [(59,.load (sT t))] [(60,i6 (t.size:Int))] (lc 9 (Blk.below k3 (bt (bt b7 HBj) b17)) 2) ?_)))))
     by_cases c19:(t.size:Int)>1048576
     ·refine xe1 1 [(61,.eq bT)] [(61,bT)] (dT c19) ?_
      refine nl (ct (sg (xe 2 [(62,.load (.iface 208 (.pointer (some (errAt es 10)))))] [(2,.iface 208 (.pointer (some (errAt es 10))))] [la 45 (⟨12,0,none⟩) (.iface 208 (.pointer (some (errAt es 10)))) w16] ⟨loads1 rfl (((bt (bt (bt b2 b7) HBj) b17).cell (World.block_lt_of_cell? _ _ (hE.load 10 12 (by decide) (by decide) rfl))).trans (hE.load 10 12 (by decide) (by decide) rfl)),trivial⟩ ?_)))
      refine nl (X_ret (rj [.iface 208 (.pointer (some (errAt es 10)))] hR_ ?_))
      rw[show plainErr k n t=10 from by unfold plainErr; simp_all<;>omega]
      exact⟨rfl,(bt (bt (bt b2 b7) HBj) b17)⟩
     refine xe1 1 [(61,.eq bF)] [(61,bF)] (dF c19) ?_
     refine nl (cf (sk (sg (xe0 1 [(2,.nilIface)] ?_))))
     refine nl (X_ret (rj [.nilIface] hR_ ?_))
     rw[show plainErr k n t=0 from by unfold plainErr; simp_all<;>omega]
     exact⟨rfl,(bt (bt (bt b2 b7) HBj) b17)⟩
    rw[errV_pos es (if (uchk t).2 then 0 else 1) (Nat.pos_of_ne_zero c18)]
    refine xe0 1 [(1,pw w.heap.size 0),(56,bT)] ?_
    refine nl (ct (sg (xe 2 [(57,.load (.iface 208 (.pointer (some (errAt es 1)))))] [(2,.iface 208 (.pointer (some (errAt es 1))))] [la 45 (⟨4,0,none⟩) (.iface 208 (.pointer (some (errAt es 1)))) w16] ⟨loads1 rfl (((bt (bt (bt b2 b7) HBj) b17).cell (World.block_lt_of_cell? _ _ (hE.load 1 4 (by decide) (by decide) rfl))).trans (hE.load 1 4 (by decide) (by decide) rfl)),trivial⟩ ?_)))
    refine nl (X_ret (rj [.iface 208 (.pointer (some (errAt es 1)))] hR_ ?_))
    rw[show plainErr k n t=1 from by unfold plainErr; simp_all<;>omega]
    exact⟨rfl,(bt (bt (bt b2 b7) HBj) b17)⟩
   rw[show (ok:Bool)=false from by simpa using c15]
   refine xr0 1 [(47,bT)] [46] ?_
   refine nl (ct (sg (xe 2 [(48,.load (.iface 208 (.pointer (some (errAt es 5)))))] [(2,.iface 208 (.pointer (some (errAt es 5))))] [la 45 (⟨8,0,none⟩) (.iface 208 (.pointer (some (errAt es 5)))) wj] ⟨loads1 rfl (((bt (bt b2 b7) HBj).cell (World.block_lt_of_cell? _ _ (hE.load 5 8 (by decide) (by decide) rfl))).trans (hE.load 5 8 (by decide) (by decide) rfl)),trivial⟩ ?_)))
   refine nl (X_ret (rj [.iface 208 (.pointer (some (errAt es 5)))] hR_ ?_))
   rw[show plainErr k n t=5 from by unfold plainErr; simp_all<;>omega]
   exact⟨rfl,(bt (bt b2 b7) HBj)⟩
  refine xsC 3 [(13,.eq bT)] [(3,bF),(4,bT)] [10,12] [Value.bool (!t.toList==(⟨#[]⟩:ByteArray).toList)=bT] ⟨congrArg Value.bool (strNeT (c10)),trivial⟩ ?_
  refine XS_nil ?_
  refine sg (xr0 1 [(5,bF)] [] ?_)
  refine nl (X_join (ι:=Bool) (fun ok=>[(1,pw w.heap.size 0),(5,.bool ok)]) (fun ok wj=>ok=plainOk k n t∧Below wd6.heap.size wd6 wj) ?_ ?_)
  ·refine sg (xe1 2 [(15,.load (i6 k))] [(1,pw w.heap.size 0),(3,bF),(4,bT),(5,bF),(15,i6 k)] (lc 3 (Blk.below k3 b7) 0) ?_)
   refine nl (bk (sq (X_region ?_)))
   by_cases c20:k=0
   ·refine xr1 2 [(17,.eq bT)] [(16,bT)] [] (bE c20) ?_
    refine nl (ct (rg (xr0 7 [] [3,4,15,16] ?_)))
    refine nl ?_
    exact⟨false,by kernel_rfl,⟨(decide_eq_false (by simp_all)).symm,(Below.refl _ _)⟩⟩
   refine xr1 2 [(17,.eq bF)] [(16,bF)] [] (bN c20) ?_
   refine nl (cf (sq (X_region ?_)))
   by_cases c21:k=1
   ·refine xr1 2 [(25,.eq bT)] [(24,bT)] [16] (bE c21) ?_
    refine nl (ct (rg (xr 13 [(27,.load (i6 n)),(28,.eq bT)] [] [3,4,15,24] [_,_] ⟨lc 2 (Blk.below k3 b7) 1,bE c9,trivial⟩ ?_)))
    refine nl ?_
    exact⟨false,by kernel_rfl,⟨(decide_eq_false (by simp_all)).symm,(Below.refl _ _)⟩⟩
   refine xr1 2 [(25,.eq bF)] [(24,bF)] [16] (bN c21) ?_
   refine nl (cf (sq (X_region ?_)))
   by_cases c22:k=2
   ·refine xr1 2 [(39,.eq bT)] [(38,bT)] [24] (bE c22) ?_
    refine nl (ct (rg (xr0 3 [] [3,4,15,38] ?_)))
    refine nl ?_
    exact⟨false,by kernel_rfl,⟨(decide_eq_false (by simp_all)).symm,(Below.refl _ _)⟩⟩
   refine xr1 2 [(39,.eq bF)] [(38,bF)] [24] (bN c22) ?_
   refine nl (cf (sq (X_region ?_)))
   by_cases c23:k=3
   ·refine xr1 2 [(43,.eq bT)] [(42,bT)] [4,15,38] (bE c23) ?_
    refine nl (ct (rg (xr0 3 [(5,bT)] [3,42] ?_)))
    refine nl ?_
    exact⟨true,by kernel_rfl,⟨(decide_eq_true (by simp_all)).symm,(Below.refl _ _)⟩⟩
   refine xr1 2 [(43,.eq bF)] [(42,bF)] [4,15,38] (bN c23) ?_
   refine nl (cf (X_skip ?_))
   exact⟨false,by kernel_rfl,⟨(decide_eq_false (by simp_all)).symm,(Below.refl _ _)⟩⟩
  rintro ok wj ⟨hok,HBj⟩
  refine sq (sg (xr0 1 [(46,.bool ok)] [5] ?_))
  by_cases c24:ok=true
  ·rw[show (ok:Bool)=true from by simpa using c24]
   refine xr0 1 [(47,bF)] [46] ?_
   refine nl (cf (sk (sq (sg (xr1 2 [(51,.load (sT t))] [(51,sT t)] [47] (lc 9 (Blk.below k3 (bt b7 HBj)) 2) ?_)))))
   refine xc 49 ent49 [sT t] (scheck_any t _ (by omega) (hT.below (bt (bt b2 b7) HBj)) es (hE.below (bt (bt b2 b7) HBj))) ?_
   rintro e w25 ⟨rfl,b26⟩; refine⟨_,rfl,?_⟩
   refine xr0 5 [(7,errV es (if (uchk t).2 then 0 else 1))] [51,52] ?_
   refine nl (sg (xr0 1 [(55,errV es (if (uchk t).2 then 0 else 1))] [7] ?_))
   by_cases c27:(if (uchk t).2 then 0 else 1)=0
   ·rw[show errV es (if (uchk t).2 then 0 else 1)=.nilIface from by rw[c27]; rfl]
    refine xe0 1 [(1,pw w.heap.size 0),(56,bF)] ?_
    refine nl (cf (sk (sq (sg (xe1 3 [(59,.load (sT t))] [(60,i6 (t.size:Int))] (lc 9 (Blk.below k3 (bt (bt b7 HBj) b26)) 2) ?_)))))
    by_cases c28:(t.size:Int)>1048576
    ·refine xe1 1 [(61,.eq bT)] [(61,bT)] (dT c28) ?_
     refine nl (ct (sg (xe 2 [(62,.load (.iface 208 (.pointer (some (errAt es 10)))))] [(2,.iface 208 (.pointer (some (errAt es 10))))] [la 45 (⟨12,0,none⟩) (.iface 208 (.pointer (some (errAt es 10)))) w25] ⟨loads1 rfl (((bt (bt (bt b2 b7) HBj) b26).cell (World.block_lt_of_cell? _ _ (hE.load 10 12 (by decide) (by decide) rfl))).trans (hE.load 10 12 (by decide) (by decide) rfl)),trivial⟩ ?_)))
     refine nl (X_ret (rj [.iface 208 (.pointer (some (errAt es 10)))] hR_ ?_))
     rw[show plainErr k n t=10 from by unfold plainErr; simp_all<;>omega]
     exact⟨rfl,(bt (bt (bt b2 b7) HBj) b26)⟩
    refine xe1 1 [(61,.eq bF)] [(61,bF)] (dF c28) ?_
    refine nl (cf (sk (sg (xe0 1 [(2,.nilIface)] ?_))))
    refine nl (X_ret (rj [.nilIface] hR_ ?_))
    rw[show plainErr k n t=0 from by unfold plainErr; simp_all<;>omega]
    exact⟨rfl,(bt (bt (bt b2 b7) HBj) b26)⟩
   rw[errV_pos es (if (uchk t).2 then 0 else 1) (Nat.pos_of_ne_zero c27)]
   refine xe0 1 [(1,pw w.heap.size 0),(56,bT)] ?_
   refine nl (ct (sg (xe 2 [(57,.load (.iface 208 (.pointer (some (errAt es 1)))))] [(2,.iface 208 (.pointer (some (errAt es 1))))] [la 45 (⟨4,0,none⟩) (.iface 208 (.pointer (some (errAt es 1)))) w25] ⟨loads1 rfl (((bt (bt (bt b2 b7) HBj) b26).cell (World.block_lt_of_cell? _ _ (hE.load 1 4 (by decide) (by decide) rfl))).trans (hE.load 1 4 (by decide) (by decide) rfl)),trivial⟩ ?_)))
   refine nl (X_ret (rj [.iface 208 (.pointer (some (errAt es 1)))] hR_ ?_))
   rw[show plainErr k n t=1 from by unfold plainErr; simp_all<;>omega]
   exact⟨rfl,(bt (bt (bt b2 b7) HBj) b26)⟩
  rw[show (ok:Bool)=false from by simpa using c24]
  refine xr0 1 [(47,bT)] [46] ?_
  refine nl (ct (sg (xe 2 [(48,.load (.iface 208 (.pointer (some (errAt es 5)))))] [(2,.iface 208 (.pointer (some (errAt es 5))))] [la 45 (⟨8,0,none⟩) (.iface 208 (.pointer (some (errAt es 5)))) wj] ⟨loads1 rfl (((bt (bt b2 b7) HBj).cell (World.block_lt_of_cell? _ _ (hE.load 5 8 (by decide) (by decide) rfl))).trans (hE.load 5 8 (by decide) (by decide) rfl)),trivial⟩ ?_)))
  refine nl (X_ret (rj [.iface 208 (.pointer (some (errAt es 5)))] hR_ ?_))
  rw[show plainErr k n t=5 from by unfold plainErr; simp_all<;>omega]
  exact⟨rfl,(bt (bt b2 b7) HBj)⟩
 refine xsC 3 [(10,.eq bT),(12,.load (sT t))] [(10,bT),(12,sT t)] [9] [_,_] ⟨nT c9,lc 9 (Blk.below k3 b7) 2,trivial⟩ ?_
 by_cases c29:t=(⟨#[]⟩:ByteArray)
 ·refine xsC 3 [(13,.eq bF)] [(3,bT),(4,bF)] [10,12] [Value.bool (!t.toList==(⟨#[]⟩:ByteArray).toList)=bF] ⟨congrArg Value.bool (strNeF (c29)),trivial⟩ ?_
  refine XS_nil ?_
  refine sg (xr0 1 [(5,bF)] [] ?_)
  refine nl (X_join (ι:=Bool) (fun ok=>[(1,pw w.heap.size 0),(5,.bool ok)]) (fun ok wj=>ok=plainOk k n t∧Below wd6.heap.size wd6 wj) ?_ ?_)
  ·refine sg (xe1 2 [(15,.load (i6 k))] [(1,pw w.heap.size 0),(3,bT),(4,bF),(5,bF),(15,i6 k)] (lc 3 (Blk.below k3 b7) 0) ?_)
   refine nl (bk (sq (X_region ?_)))
   by_cases c30:k=0
   ·refine xr1 2 [(17,.eq bT)] [(16,bT)] [] (bE c30) ?_
    refine nl (ct (rg (xr0 7 [] [3,4,15,16] ?_)))
    refine nl ?_
    exact⟨false,by kernel_rfl,⟨(decide_eq_false (by simp_all)).symm,(Below.refl _ _)⟩⟩
   refine xr1 2 [(17,.eq bF)] [(16,bF)] [] (bN c30) ?_
   refine nl (cf (sq (X_region ?_)))
   by_cases c31:k=1
   ·refine xr1 2 [(25,.eq bT)] [(24,bT)] [16] (bE c31) ?_
    refine nl (ct (rg (xr 6 [(27,.load (i6 n)),(28,.eq bF),(31,.load (i6 n))] [(29,bF),(31,i6 n)] [3,5,15,24] [_,_,_] ⟨lc 2 (Blk.below k3 b7) 1,bN c9,lc 2 (Blk.below k3 b7) 1,trivial⟩ ?_)))
    by_cases c32:n=1
    ·refine xr1 7 [(32,.eq bT)] [(5,bT)] [4,29,31] (bE c32) ?_
     refine nl ?_
     exact⟨true,by kernel_rfl,⟨(decide_eq_true (by simp_all)).symm,(Below.refl _ _)⟩⟩
    refine xr1 7 [(32,.eq bF)] [(5,bF)] [4,29,31] (bN c32) ?_
    refine nl ?_
    exact⟨false,by kernel_rfl,⟨(decide_eq_false (by simp_all)).symm,(Below.refl _ _)⟩⟩
   refine xr1 2 [(25,.eq bF)] [(24,bF)] [16] (bN c31) ?_
   refine nl (cf (sq (X_region ?_)))
   by_cases c33:k=2
   ·refine xr1 2 [(39,.eq bT)] [(38,bT)] [24] (bE c33) ?_
    refine nl (ct (rg (xr0 3 [(5,bT)] [3,4,15,38] ?_)))
    refine nl ?_
    exact⟨true,by kernel_rfl,⟨(decide_eq_true (by simp_all)).symm,(Below.refl _ _)⟩⟩
   refine xr1 2 [(39,.eq bF)] [(38,bF)] [24] (bN c33) ?_
   refine nl (cf (sq (X_region ?_)))
   by_cases c34:k=3
   ·refine xr1 2 [(43,.eq bT)] [(42,bT)] [4,15,38] (bE c34) ?_
    refine nl (ct (rg (xr0 3 [] [3,42] ?_)))
    refine nl ?_
    exact⟨false,by kernel_rfl,⟨(decide_eq_false (by simp_all)).symm,(Below.refl _ _)⟩⟩
   refine xr1 2 [(43,.eq bF)] [(42,bF)] [4,15,38] (bN c34) ?_
   refine nl (cf (X_skip ?_))
   exact⟨false,by kernel_rfl,⟨(decide_eq_false (by simp_all)).symm,(Below.refl _ _)⟩⟩
  rintro ok wj ⟨hok,HBj⟩
  refine sq (sg (xr0 1 [(46,.bool ok)] [5] ?_))
  by_cases c35:ok=true
  ·rw[show (ok:Bool)=true from by simpa using c35]
   refine xr0 1 [(47,bF)] [46] ?_
   refine nl (cf (sk (sq (sg (xr1 2 [(51,.load (sT t))] [(51,sT t)] [47] (lc 9 (Blk.below k3 (bt b7 HBj)) 2) ?_)))))
   refine xc 49 ent49 [sT t] (scheck_any t _ (by omega) (hT.below (bt (bt b2 b7) HBj)) es (hE.below (bt (bt b2 b7) HBj))) ?_
   rintro e w36 ⟨rfl,b37⟩; refine⟨_,rfl,?_⟩
   refine xr0 5 [(7,errV es (if (uchk t).2 then 0 else 1))] [51,52] ?_
   refine nl (sg (xr0 1 [(55,errV es (if (uchk t).2 then 0 else 1))] [7] ?_))
   by_cases c38:(if (uchk t).2 then 0 else 1)=0
   ·rw[show errV es (if (uchk t).2 then 0 else 1)=.nilIface from by rw[c38]; rfl]
    refine xe0 1 [(1,pw w.heap.size 0),(56,bF)] ?_
    refine nl (cf (sk (sq (sg (xe1 3 [(59,.load (sT t))] [(60,i6 (t.size:Int))] (lc 9 (Blk.below k3 (bt (bt b7 HBj) b37)) 2) ?_)))))
    by_cases c39:(t.size:Int)>1048576
    ·refine xe1 1 [(61,.eq bT)] [(61,bT)] (dT c39) ?_
     refine nl (ct (sg (xe 2 [(62,.load (.iface 208 (.pointer (some (errAt es 10)))))] [(2,.iface 208 (.pointer (some (errAt es 10))))] [la 45 (⟨12,0,none⟩) (.iface 208 (.pointer (some (errAt es 10)))) w36] ⟨loads1 rfl (((bt (bt (bt b2 b7) HBj) b37).cell (World.block_lt_of_cell? _ _ (hE.load 10 12 (by decide) (by decide) rfl))).trans (hE.load 10 12 (by decide) (by decide) rfl)),trivial⟩ ?_)))
     refine nl (X_ret (rj [.iface 208 (.pointer (some (errAt es 10)))] hR_ ?_))
     rw[show plainErr k n t=10 from by unfold plainErr; simp_all<;>omega]
     exact⟨rfl,(bt (bt (bt b2 b7) HBj) b37)⟩
    refine xe1 1 [(61,.eq bF)] [(61,bF)] (dF c39) ?_
    refine nl (cf (sk (sg (xe0 1 [(2,.nilIface)] ?_))))
    refine nl (X_ret (rj [.nilIface] hR_ ?_))
    rw[show plainErr k n t=0 from by unfold plainErr; simp_all<;>omega]
    exact⟨rfl,(bt (bt (bt b2 b7) HBj) b37)⟩
   rw[errV_pos es (if (uchk t).2 then 0 else 1) (Nat.pos_of_ne_zero c38)]
   refine xe0 1 [(1,pw w.heap.size 0),(56,bT)] ?_
   refine nl (ct (sg (xe 2 [(57,.load (.iface 208 (.pointer (some (errAt es 1)))))] [(2,.iface 208 (.pointer (some (errAt es 1))))] [la 45 (⟨4,0,none⟩) (.iface 208 (.pointer (some (errAt es 1)))) w36] ⟨loads1 rfl (((bt (bt (bt b2 b7) HBj) b37).cell (World.block_lt_of_cell? _ _ (hE.load 1 4 (by decide) (by decide) rfl))).trans (hE.load 1 4 (by decide) (by decide) rfl)),trivial⟩ ?_)))
   refine nl (X_ret (rj [.iface 208 (.pointer (some (errAt es 1)))] hR_ ?_))
   rw[show plainErr k n t=1 from by unfold plainErr; simp_all<;>omega]
   exact⟨rfl,(bt (bt (bt b2 b7) HBj) b37)⟩
  rw[show (ok:Bool)=false from by simpa using c35]
  refine xr0 1 [(47,bT)] [46] ?_
  refine nl (ct (sg (xe 2 [(48,.load (.iface 208 (.pointer (some (errAt es 5)))))] [(2,.iface 208 (.pointer (some (errAt es 5))))] [la 45 (⟨8,0,none⟩) (.iface 208 (.pointer (some (errAt es 5)))) wj] ⟨loads1 rfl (((bt (bt b2 b7) HBj).cell (World.block_lt_of_cell? _ _ (hE.load 5 8 (by decide) (by decide) rfl))).trans (hE.load 5 8 (by decide) (by decide) rfl)),trivial⟩ ?_)))
  refine nl (X_ret (rj [.iface 208 (.pointer (some (errAt es 5)))] hR_ ?_))
  rw[show plainErr k n t=5 from by unfold plainErr; simp_all<;>omega]
  exact⟨rfl,(bt (bt b2 b7) HBj)⟩
 refine xsC 3 [(13,.eq bT)] [(3,bT),(4,bT)] [10,12] [Value.bool (!t.toList==(⟨#[]⟩:ByteArray).toList)=bT] ⟨congrArg Value.bool (strNeT (c29)),trivial⟩ ?_
 refine XS_nil ?_
 refine sg (xr0 1 [(5,bF)] [] ?_)
 refine nl (X_join (ι:=Bool) (fun ok=>[(1,pw w.heap.size 0),(5,.bool ok)]) (fun ok wj=>ok=plainOk k n t∧Below wd6.heap.size wd6 wj) ?_ ?_)
 ·refine sg (xe1 2 [(15,.load (i6 k))] [(1,pw w.heap.size 0),(3,bT),(4,bT),(5,bF),(15,i6 k)] (lc 3 (Blk.below k3 b7) 0) ?_)
  refine nl (bk (sq (X_region ?_)))
  by_cases c40:k=0
  ·refine xr1 2 [(17,.eq bT)] [(16,bT)] [] (bE c40) ?_
   refine nl (ct (rg (xr0 7 [] [3,4,15,16] ?_)))
   refine nl ?_
   exact⟨false,by kernel_rfl,⟨(decide_eq_false (by simp_all)).symm,(Below.refl _ _)⟩⟩
  refine xr1 2 [(17,.eq bF)] [(16,bF)] [] (bN c40) ?_
  refine nl (cf (sq (X_region ?_)))
  by_cases c41:k=1
  ·refine xr1 2 [(25,.eq bT)] [(24,bT)] [16] (bE c41) ?_
   refine nl (ct (rg (xr 6 [(27,.load (i6 n)),(28,.eq bF),(31,.load (i6 n))] [(29,bF),(31,i6 n)] [3,5,15,24] [_,_,_] ⟨lc 2 (Blk.below k3 b7) 1,bN c9,lc 2 (Blk.below k3 b7) 1,trivial⟩ ?_)))
   by_cases c42:n=1
   ·refine xr1 7 [(32,.eq bT)] [(5,bF)] [4,29,31] (bE c42) ?_
    refine nl ?_
    exact⟨false,by kernel_rfl,⟨(decide_eq_false (by simp_all)).symm,(Below.refl _ _)⟩⟩
   refine xr1 7 [(32,.eq bF)] [(5,bF)] [4,29,31] (bN c42) ?_
   refine nl ?_
   exact⟨false,by kernel_rfl,⟨(decide_eq_false (by simp_all)).symm,(Below.refl _ _)⟩⟩
  refine xr1 2 [(25,.eq bF)] [(24,bF)] [16] (bN c41) ?_
  refine nl (cf (sq (X_region ?_)))
  by_cases c43:k=2
  ·refine xr1 2 [(39,.eq bT)] [(38,bT)] [24] (bE c43) ?_
   refine nl (ct (rg (xr0 3 [] [3,4,15,38] ?_)))
   refine nl ?_
   exact⟨false,by kernel_rfl,⟨(decide_eq_false (by simp_all)).symm,(Below.refl _ _)⟩⟩
  refine xr1 2 [(39,.eq bF)] [(38,bF)] [24] (bN c43) ?_
  refine nl (cf (sq (X_region ?_)))
  by_cases c44:k=3
  ·refine xr1 2 [(43,.eq bT)] [(42,bT)] [4,15,38] (bE c44) ?_
   refine nl (ct (rg (xr0 3 [] [3,42] ?_)))
   refine nl ?_
   exact⟨false,by kernel_rfl,⟨(decide_eq_false (by simp_all)).symm,(Below.refl _ _)⟩⟩
  refine xr1 2 [(43,.eq bF)] [(42,bF)] [4,15,38] (bN c44) ?_
  refine nl (cf (X_skip ?_))
  exact⟨false,by kernel_rfl,⟨(decide_eq_false (by simp_all)).symm,(Below.refl _ _)⟩⟩
 rintro ok wj ⟨hok,HBj⟩
 refine sq (sg (xr0 1 [(46,.bool ok)] [5] ?_))
 by_cases c45:ok=true
 ·rw[show (ok:Bool)=true from by simpa using c45]
  refine xr0 1 [(47,bF)] [46] ?_
  refine nl (cf (sk (sq (sg (xr1 2 [(51,.load (sT t))] [(51,sT t)] [47] (lc 9 (Blk.below k3 (bt b7 HBj)) 2) ?_)))))
  refine xc 49 ent49 [sT t] (scheck_any t _ (by omega) (hT.below (bt (bt b2 b7) HBj)) es (hE.below (bt (bt b2 b7) HBj))) ?_
  rintro e w46 ⟨rfl,b47⟩; refine⟨_,rfl,?_⟩
  refine xr0 5 [(7,errV es (if (uchk t).2 then 0 else 1))] [51,52] ?_
  refine nl (sg (xr0 1 [(55,errV es (if (uchk t).2 then 0 else 1))] [7] ?_))
  by_cases c48:(if (uchk t).2 then 0 else 1)=0
  ·rw[show errV es (if (uchk t).2 then 0 else 1)=.nilIface from by rw[c48]; rfl]
   refine xe0 1 [(1,pw w.heap.size 0),(56,bF)] ?_
   refine nl (cf (sk (sq (sg (xe1 3 [(59,.load (sT t))] [(60,i6 (t.size:Int))] (lc 9 (Blk.below k3 (bt (bt b7 HBj) b47)) 2) ?_)))))
   by_cases c49:(t.size:Int)>1048576
   ·refine xe1 1 [(61,.eq bT)] [(61,bT)] (dT c49) ?_
    refine nl (ct (sg (xe 2 [(62,.load (.iface 208 (.pointer (some (errAt es 10)))))] [(2,.iface 208 (.pointer (some (errAt es 10))))] [la 45 (⟨12,0,none⟩) (.iface 208 (.pointer (some (errAt es 10)))) w46] ⟨loads1 rfl (((bt (bt (bt b2 b7) HBj) b47).cell (World.block_lt_of_cell? _ _ (hE.load 10 12 (by decide) (by decide) rfl))).trans (hE.load 10 12 (by decide) (by decide) rfl)),trivial⟩ ?_)))
    refine nl (X_ret (rj [.iface 208 (.pointer (some (errAt es 10)))] hR_ ?_))
    rw[show plainErr k n t=10 from by unfold plainErr; simp_all<;>omega]
    exact⟨rfl,(bt (bt (bt b2 b7) HBj) b47)⟩
   refine xe1 1 [(61,.eq bF)] [(61,bF)] (dF c49) ?_
   refine nl (cf (sk (sg (xe0 1 [(2,.nilIface)] ?_))))
   refine nl (X_ret (rj [.nilIface] hR_ ?_))
   rw[show plainErr k n t=0 from by unfold plainErr; simp_all<;>omega]
   exact⟨rfl,(bt (bt (bt b2 b7) HBj) b47)⟩
  rw[errV_pos es (if (uchk t).2 then 0 else 1) (Nat.pos_of_ne_zero c48)]
  refine xe0 1 [(1,pw w.heap.size 0),(56,bT)] ?_
  refine nl (ct (sg (xe 2 [(57,.load (.iface 208 (.pointer (some (errAt es 1)))))] [(2,.iface 208 (.pointer (some (errAt es 1))))] [la 45 (⟨4,0,none⟩) (.iface 208 (.pointer (some (errAt es 1)))) w46] ⟨loads1 rfl (((bt (bt (bt b2 b7) HBj) b47).cell (World.block_lt_of_cell? _ _ (hE.load 1 4 (by decide) (by decide) rfl))).trans (hE.load 1 4 (by decide) (by decide) rfl)),trivial⟩ ?_)))
  refine nl (X_ret (rj [.iface 208 (.pointer (some (errAt es 1)))] hR_ ?_))
  rw[show plainErr k n t=1 from by unfold plainErr; simp_all<;>omega]
  exact⟨rfl,(bt (bt (bt b2 b7) HBj) b47)⟩
 rw[show (ok:Bool)=false from by simpa using c45]
 refine xr0 1 [(47,bT)] [46] ?_
 refine nl (ct (sg (xe 2 [(48,.load (.iface 208 (.pointer (some (errAt es 5)))))] [(2,.iface 208 (.pointer (some (errAt es 5))))] [la 45 (⟨8,0,none⟩) (.iface 208 (.pointer (some (errAt es 5)))) wj] ⟨loads1 rfl (((bt (bt b2 b7) HBj).cell (World.block_lt_of_cell? _ _ (hE.load 5 8 (by decide) (by decide) rfl))).trans (hE.load 5 8 (by decide) (by decide) rfl)),trivial⟩ ?_)))
 refine nl (X_ret (rj [.iface 208 (.pointer (some (errAt es 5)))] hR_ ?_))
 rw[show plainErr k n t=5 from by unfold plainErr; simp_all<;>omega]
 exact⟨rfl,(bt (bt b2 b7) HBj)⟩
theorem pair_any (x:At)(w:World)(h1:x.1.size≤9223372036854775807)(h2:x.2.2.2.size≤9223372036854775807)(hT:Tabs w)(es:List Addr)(hE:ErrsA w es):Rt 114 #[.agg (a4 x)] w (errV es (pairErr x)):=by
 refine en Tryz.func114 rfl 27 [(0,.agg (a4 x))] (fun R_ hR_=>?_)
 refine sg (xwe 1 [] [(1,pw w.heap.size 0)] (w.alloc (.cells (a4 x) 148)) [] trivial ?_)
 obtain⟨w1,w5,b2,k3,z4⟩:=new_world w (a4 x) 148
 rw[w5]
 refine xr0 1 [] [] ?_
 refine nl (sq (sg (xr1 2 [(6,.load (sT x.1))] [(6,sT x.1)] [] (lc 9 k3 0) ?_)))
 by_cases c6:x.1=(⟨#[]⟩:ByteArray)
 ·refine xr 7 [(7,.eq bT)] [(13,bT)] [6] [Value.bool (x.1.toList==(⟨#[]⟩:ByteArray).toList)=bT] ⟨congrArg Value.bool (strEqT (c6)),trivial⟩ ?_
  refine nl (ct (sg (xe 2 [(14,.load (.iface 208 (.pointer (some (errAt es 6)))))] [(2,.iface 208 (.pointer (some (errAt es 6))))] [la 45 (⟨1,0,none⟩) (.iface 208 (.pointer (some (errAt es 6)))) w1] ⟨loads1 rfl ((b2.cell (World.block_lt_of_cell? _ _ (hE.load 6 1 (by decide) (by decide) rfl))).trans (hE.load 6 1 (by decide) (by decide) rfl)),trivial⟩ ?_)))
  refine nl (X_ret (rj [.iface 208 (.pointer (some (errAt es 6)))] hR_ ?_))
  rw[show pairErr x=6 from by unfold pairErr; simp_all<;>omega]
  exact⟨rfl,b2⟩
 refine xr 5 [(7,.eq bF),(10,.load (sT x.1))] [(8,bF),(11,i6 (x.1.size:Int))] [6] [Value.bool (x.1.toList==(⟨#[]⟩:ByteArray).toList)=bF,_] ⟨congrArg Value.bool (strEqF (c6)),lc 9 k3 0,trivial⟩ ?_
 by_cases c7:(x.1.size:Int)>64
 ·refine xr1 2 [(12,.eq bT)] [(13,bT)] [8,11] (dT c7) ?_
  refine nl (ct (sg (xe 2 [(14,.load (.iface 208 (.pointer (some (errAt es 6)))))] [(2,.iface 208 (.pointer (some (errAt es 6))))] [la 45 (⟨1,0,none⟩) (.iface 208 (.pointer (some (errAt es 6)))) w1] ⟨loads1 rfl ((b2.cell (World.block_lt_of_cell? _ _ (hE.load 6 1 (by decide) (by decide) rfl))).trans (hE.load 6 1 (by decide) (by decide) rfl)),trivial⟩ ?_)))
  refine nl (X_ret (rj [.iface 208 (.pointer (some (errAt es 6)))] hR_ ?_))
  rw[show pairErr x=6 from by unfold pairErr; simp_all<;>omega]
  exact⟨rfl,b2⟩
 refine xr1 2 [(12,.eq bF)] [(13,bF)] [8,11] (dF c7) ?_
 refine nl (cf (sk (sq (sg (xr1 2 [(17,.load (sT x.1))] [(17,sT x.1)] [13] (lc 9 k3 0) ?_)))))
 refine xc 49 ent49 [sT x.1] (scheck_any x.1 _ (by omega) (hT.below b2) es (hE.below b2)) ?_
 rintro e w8 ⟨rfl,b9⟩; refine⟨_,rfl,?_⟩
 refine xe0 5 [(1,pw w.heap.size 0),(4,errV es (if (uchk x.1).2 then 0 else 1))] ?_
 refine nl (sg (xr0 1 [(21,errV es (if (uchk x.1).2 then 0 else 1))] [] ?_))
 by_cases c10:(if (uchk x.1).2 then 0 else 1)=0
 ·rw[show errV es (if (uchk x.1).2 then 0 else 1)=.nilIface from by rw[c10]; rfl]
  refine xr0 1 [(4,.nilIface),(22,bF)] [21] ?_
  refine nl (cf (sk (sg (xe 2 [(25,.load (.agg #[i6 x.2.1,i6 x.2.2.1,sT x.2.2.2]))] [(25,.agg #[i6 x.2.1,i6 x.2.2.1,sT x.2.2.2])] [la 67 (⟨w.heap.size,1,none⟩) (.agg #[i6 x.2.1,i6 x.2.2.1,sT x.2.2.2]) w8] ⟨loadsB rfl rfl (Blk.below k3 b9) 1 ⟨by kernel_rfl,by kernel_rfl⟩,trivial⟩ ?_))))
  refine xc 120 ent120 [.agg #[i6 x.2.1,i6 x.2.2.1,sT x.2.2.2]] (vcheck_any x.2.1 x.2.2.1 x.2.2.2 _ (by omega) (hT.below (bt b2 b9)) es (hE.below (bt b2 b9))) ?_
  rintro e w11 ⟨rfl,b12⟩; refine⟨_,rfl,?_⟩
  refine xe0 1 [(2,errV es (plainErr x.2.1 x.2.2.1 x.2.2.2))] ?_
  refine nl (X_ret (rj [errV es (plainErr x.2.1 x.2.2.1 x.2.2.2)] hR_ ?_))
  rw[show pairErr x=(plainErr x.2.1 x.2.2.1 x.2.2.2)from by unfold pairErr; simp_all<;>omega]
  exact⟨rfl,(bt (bt b2 b9) b12)⟩
 rw[errV_pos es (if (uchk x.1).2 then 0 else 1) (Nat.pos_of_ne_zero c10)]
 refine xr0 1 [(4,.iface 208 (.pointer (some (errAt es (if (uchk x.1).2 then 0 else 1))))),(22,bT)] [21] ?_
 refine nl (ct (sg (xe0 2 [(2,.iface 208 (.pointer (some (errAt es (if (uchk x.1).2 then 0 else 1)))))] ?_)))
 refine nl (X_ret (rj [.iface 208 (.pointer (some (errAt es (if (uchk x.1).2 then 0 else 1))))] hR_ ?_))
 rw[show pairErr x=(if (uchk x.1).2 then 0 else 1)from by unfold pairErr; simp_all<;>omega,errV_pos es _ (Nat.pos_of_ne_zero c10)]
 exact⟨rfl,(bt b2 b9)⟩
def attrAt (nulls:Bool)(xs:List At)(i:Nat):Nat:=if pairErr (xs.getD i at0)≠0 then pairErr (xs.getD i at0)else if (xs.getD i at0).2.1=0∧nulls=false then 7
 else if 0<i∧(Op.bytesLess (xs.getD i at0).1.toList (xs.getD (i-1) at0).1.toList||(xs.getD i at0).1.toList==(xs.getD (i-1) at0).1.toList)=true then 8 else 0
def chkUpto (nulls:Bool)(xs:List At):Nat→Nat
 | 0=>0
 | n+1=>if chkUpto nulls xs n≠0 then chkUpto nulls xs n else attrAt nulls xs n
def chkA (nulls:Bool)(xs:List At):Nat:=chkUpto nulls xs xs.length
theorem chkUpto_stop (nulls:Bool)(xs:List At)(i:Nat)(h0:chkUpto nulls xs i=0)(h1:attrAt nulls xs i≠0):∀ k,chkUpto nulls xs (i+1+k)=attrAt nulls xs i
 | 0=>by show (if chkUpto nulls xs i≠0 then _ else _)=_; rw[if_neg (by omega)]
 | k+1=>by
  have ih:=chkUpto_stop nulls xs i h0 h1 k
  show (if chkUpto nulls xs (i+1+k)≠0 then chkUpto nulls xs (i+1+k)else _)=_
  rw[if_pos (by rw[ih]; exact h1),ih]
theorem chkA_stop (nulls:Bool)(xs:List At)(i:Nat)(hi:i<xs.length)(h0:chkUpto nulls xs i=0)(h1:attrAt nulls xs i≠0):chkA nulls xs=attrAt nulls xs i:=by
 have:=chkUpto_stop nulls xs i h0 h1 (xs.length-(i+1))
 rw[show i+1+(xs.length-(i+1))=xs.length from by omega]at this
 exact this
theorem chkUpto_succ (nulls:Bool)(xs:List At)(i:Nat)(h0:chkUpto nulls xs i=0)(h1:attrAt nulls xs i=0):chkUpto nulls xs (i+1)=0:=by
 show (if chkUpto nulls xs i≠0 then _ else _)=0
 rw[if_neg (by omega),h1]
theorem acheck_any (A:Option Addr)(c:Nat)(xs:List At)(nulls:Bool)(w:World)(hx:kAttr.C w A xs.length xs)(hsz:∀ i,i<xs.length→(xs.getD i at0).1.size≤9223372036854775807∧(xs.getD i at0).2.2.2.size≤9223372036854775807)(hT:Tabs w)(es:List Addr)(hE:ErrsA w es):
  Rt 95 #[.slice A xs.length c,.bool nulls] w (errV es (chkA nulls xs)):=by
 have hpl:xs.length≤9223372036854775807:=hx.2.1
 refine en Tryz.func95 rfl 42 [(0,aL A xs c),(1,.bool nulls)] (fun R_ hR_=>?_)
 refine sg (xe0 1 [(0,aL A xs c),(1,.bool nulls)] ?_)
 refine nl (sq (sg (xr0 3 [(8,aL A xs c),(9,i6 (xs.length:Int)),(10,i6 0)] [] ?_)))
 refine nl (bk (X_loop (ι:=Nat) (fun i=>[(0,aL A xs c),(1,.bool nulls),(8,aL A xs c),(9,i6 (xs.length:Int)),(10,i6 (i:Int))]) (fun i wl=>i≤xs.length∧chkUpto nulls xs i=0∧Below w.heap.size w wl) (fun i=>xs.length-i) 0 ⟨by omega,rfl,(Below.refl _ _)⟩ (by kernel_rfl) ?_))
 rintro i wl ⟨hi,h0,HB⟩
 have hz:((i:Int)-1).toNat=i-1:=by omega
 refine sq (X_region ?_)
 by_cases c1:(i:Int)<(xs.length:Int)
 ·refine xr1 1 [(11,.eq bT)] [(11,bT)] [] (dT c1) ?_
  refine nl (sq (ct (sk (sq (bk (sg (xr0 1 [(12,nv i)] [11] ?_)))))))
  obtain⟨ad2,a3,c4⟩:=Kd.atAttr (Kd.C_below hx HB) (i:=(i:Int)) (by omega) (by omega)
  replace c4:CellsAt wl (ad2.add ((i:Int).toNat*4)) [sT ((xs.getD i at0).1),i6 ((xs.getD i at0).2.1),i6 ((xs.getD i at0).2.2.1),sT ((xs.getD i at0).2.2.2)]:=c4
  refine xw 3 [(13,.idx ad2),(14,.load (.agg (a4 (xs.getD i at0))))] [(6,pw wl.heap.size 0),(14,.agg (a4 (xs.getD i at0)))] [] (wl.alloc (.cells #[s0,i6 0,i6 0,s0] 148)) [A=some ad2,(0:Int)≤(i:Int),(i:Int)<(xs.length:Int),la 148 (ad2.add ((i:Int).toNat*4)) (.agg (a4 (xs.getD i at0))) wl] ⟨a3,(by omega),(by omega),loadsE rfl rfl c4 0 ⟨by kernel_rfl,by kernel_rfl⟩,trivial⟩ ?_
  obtain⟨w_5,w9,b6,k7,z8⟩:=new_world wl #[s0,i6 0,i6 0,s0] 148
  rw[w9]
  refine xr0 1 [(5,nv i)] [12] ?_
  refine xst (.agg (a4 (xs.getD i at0))) k7 0 (a4 (xs.getD i at0)) (fun w10 g11 k12 z13=>?_)
  refine nl (sq (sg (xr 1 [(15,.load (.agg (a4 (xs.getD i at0))))] [(15,.agg (a4 (xs.getD i at0)))] [14] [la 148 (⟨wl.heap.size,0,none⟩) (.agg (a4 (xs.getD i at0))) w10] ⟨loadsB rfl rfl k12 0 ⟨by kernel_rfl,by kernel_rfl⟩,trivial⟩ ?_)))
  refine xc 114 ent114 [.agg (a4 (xs.getD i at0))] (pair_any (xs.getD i at0) _ (hsz i (by omega)).1 (hsz i (by omega)).2 (hT.below (bg (bt HB b6) g11 (HB).size)) es (hE.below (bg (bt HB b6) g11 (HB).size))) ?_
  rintro e w14 ⟨rfl,b15⟩; refine⟨_,rfl,?_⟩
  refine xe0 1 [(0,aL A xs c),(1,.bool nulls),(5,nv i),(6,pw wl.heap.size 0),(7,errV es (pairErr (xs.getD i at0))),(8,aL A xs c),(9,i6 (xs.length:Int)),(10,nv i)] ?_
  refine nl (sg (xr0 1 [(17,errV es (pairErr (xs.getD i at0)))] [] ?_))
  by_cases c16:(pairErr (xs.getD i at0))=0
  ·rw[show errV es (pairErr (xs.getD i at0))=.nilIface from by rw[c16]; rfl]
   refine xr0 1 [(7,.nilIface),(18,bF)] [17] ?_
   refine nl (cf (sk (sq (sg (xr 1 [(20,.load (.agg (a4 (xs.getD i at0))))] [(20,.agg (a4 (xs.getD i at0)))] [7,18] [la 148 (⟨wl.heap.size,0,none⟩) (.agg (a4 (xs.getD i at0))) w14] ⟨loadsB rfl rfl (Blk.below k12 b15) 0 ⟨by kernel_rfl,by kernel_rfl⟩,trivial⟩ ?_)))))
   refine xc 115 ent115 [.agg (a4 (xs.getD i at0))] (null_any (xs.getD i at0) _) ?_
   rintro e w17 ⟨rfl,b18⟩; refine⟨_,rfl,?_⟩
   refine xr0 1 [(22,.bool (decide ((xs.getD i at0).2.1=0)))] [20,21] ?_
   by_cases c19:decide ((xs.getD i at0).2.1=0)=true
   ·rw[show (decide ((xs.getD i at0).2.1=0):Bool)=true from by simpa using c19]
    refine xr0 1 [(22,bT),(23,.bool nulls)] [] ?_
    by_cases c20:nulls=true
    ·rw[show (nulls:Bool)=true from by simpa using c20]
     refine xe0 2 [(0,aL A xs c),(1,bT),(5,nv i),(6,pw wl.heap.size 0),(8,aL A xs c),(9,i6 (xs.length:Int)),(10,nv i),(25,bF)] ?_
     refine nl (cf (sk (sq (X_still (by kernel_rfl) (by kernel_rfl) (fun wd21 b22 h23=>?_)))))
     refine xsC 1 [] [(27,nv i)] [25] [] trivial ?_
     by_cases c24:(i:Int)>0
     ·refine xsC 7 [(28,.eq bT),(31,.load (sT ((xs.getD i at0).1))),(34,.eq (i6 ((i:Int)-1)))] [(29,bT),(31,sT ((xs.getD i at0).1)),(32,aL A xs c),(34,i6 ((i:Int)-1))] [5,6,27] [_,_,_] ⟨dT c24,lc 9 (Blk.below k12 (bt (bt b15 b18) b22)) 0,w6 ((i:Int)-1),trivial⟩ ?_
      have B25:Below w.heap.size w wd21:=(bt (bt (bt (bg (bt HB b6) g11 (HB).size) b15) b18) b22)
      obtain⟨ad26,a27,hc28⟩:=Kd.atAttr (Kd.C_below hx B25) (i:=(i:Int)-1) (by omega) (by omega)
      replace hc28:CellsAt wd21 (ad26.add (((i:Int)-1).toNat*4)) [sT ((xs.getD ((i:Int)-1).toNat at0).1),i6 ((xs.getD ((i:Int)-1).toNat at0).2.1),i6 ((xs.getD ((i:Int)-1).toNat at0).2.2.1),sT ((xs.getD ((i:Int)-1).toNat at0).2.2.2)]:=hc28
      refine xsC 3 [(35,.idx ad26),(37,.load (sT ((xs.getD ((i:Int)-1).toNat at0).1)))] [(37,sT ((xs.getD ((i:Int)-1).toNat at0).1))] [32,34] [A=some ad26,(0:Int)≤(i:Int)-1,(i:Int)-1<(xs.length:Int),la 9 (ad26.add (((i:Int)-1).toNat*4)) (sT ((xs.getD ((i:Int)-1).toNat at0).1)) wd21] ⟨a27,(by omega),(by omega),loads1 rfl (elem_cell hc28 0 _ rfl),trivial⟩ ?_
      by_cases c29:((Op.bytesLess ((xs.getD i at0).1).toList ((xs.getD ((i:Int)-1).toNat at0).1).toList||(((xs.getD i at0).1).toList==((xs.getD ((i:Int)-1).toNat at0).1).toList)))=true
      ·refine xsC 2 [(38,.eq bT)] [(39,bT)] [29,31,37] [Value.bool ((Op.bytesLess ((xs.getD i at0).1).toList ((xs.getD ((i:Int)-1).toNat at0).1).toList||(((xs.getD i at0).1).toList==((xs.getD ((i:Int)-1).toNat at0).1).toList)))=bT] ⟨congrArg Value.bool (c29),trivial⟩ ?_
       refine XS_nil ?_
       refine ct (sg (xe 2 [(40,.load (.iface 208 (.pointer (some (errAt es 8)))))] [(4,.iface 208 (.pointer (some (errAt es 8))))] [la 45 (⟨10,0,none⟩) (.iface 208 (.pointer (some (errAt es 8)))) wd21] ⟨loads1 rfl ((B25.cell (World.block_lt_of_cell? _ _ (hE.load 8 10 (by decide) (by decide) rfl))).trans (hE.load 8 10 (by decide) (by decide) rfl)),trivial⟩ ?_))
       refine nl (X_ret (rj [.iface 208 (.pointer (some (errAt es 8)))] hR_ ?_))
       (try simp only[hz]at *)
       have he:attrAt nulls xs i=8:=by unfold attrAt; simp_all<;>omega
       rw[chkA_stop nulls xs i (by omega) h0 (by rw[he]; decide),he]
       exact⟨rfl,B25⟩
      refine xsC 2 [(38,.eq bF)] [(39,bF)] [29,31,37] [Value.bool ((Op.bytesLess ((xs.getD i at0).1).toList ((xs.getD ((i:Int)-1).toNat at0).1).toList||(((xs.getD i at0).1).toList==((xs.getD ((i:Int)-1).toNat at0).1).toList)))=bF] ⟨congrArg Value.bool (Bool.eq_false_iff.2 (c29)),trivial⟩ ?_
      refine XS_nil ?_
      refine cf (sk (rg (xr1 2 [(41,.eq (i6 ((i:Int)+1)))] [(10,i6 ((i:Int)+1))] [39] (w6 ((i:Int)+1)) ?_)))
      refine nl ?_
      refine⟨(i+1),by kernel_rfl,?_,?_⟩
      ·obtain rfl:nulls=true:=c20
       (try simp only[hz]at *)
       exact⟨by omega,chkUpto_succ _ _ _ h0 (by unfold attrAt; simp_all<;>omega),B25⟩
      (try dsimp only); omega
     refine xsC 12 [(28,.eq bF)] [(39,bF)] [5,6,27] [_] ⟨dF c24,trivial⟩ ?_
     refine XS_nil ?_
     refine cf (sk (rg (xr1 2 [(41,.eq (i6 ((i:Int)+1)))] [(10,i6 ((i:Int)+1))] [39] (w6 ((i:Int)+1)) ?_)))
     refine nl ?_
     have B30:Below w.heap.size w wd21:=(bt (bt (bt (bg (bt HB b6) g11 (HB).size) b15) b18) b22)
     refine⟨(i+1),by kernel_rfl,?_,?_⟩
     ·obtain rfl:nulls=true:=c20
      (try simp only[hz]at *)
      exact⟨by omega,chkUpto_succ _ _ _ h0 (by unfold attrAt; simp_all<;>omega),B30⟩
     (try dsimp only); omega
    rw[show (nulls:Bool)=false from by simpa using c20]
    refine xe0 2 [(0,aL A xs c),(1,bF),(5,nv i),(6,pw wl.heap.size 0),(8,aL A xs c),(9,i6 (xs.length:Int)),(10,nv i),(25,bT)] ?_
    refine nl (ct (sq (X_region ?_)))
    have B31:Below w.heap.size w w17:=(bt (bt (bg (bt HB b6) g11 (HB).size) b15) b18)
    refine xe 2 [(26,.load (.iface 208 (.pointer (some (errAt es 7)))))] [(4,.iface 208 (.pointer (some (errAt es 7))))] [la 45 (⟨9,0,none⟩) (.iface 208 (.pointer (some (errAt es 7)))) w17] ⟨loads1 rfl ((B31.cell (World.block_lt_of_cell? _ _ (hE.load 7 9 (by decide) (by decide) rfl))).trans (hE.load 7 9 (by decide) (by decide) rfl)),trivial⟩ ?_
    refine nl (X_ret (rj [.iface 208 (.pointer (some (errAt es 7)))] hR_ ?_))
    (try simp only[hz]at *)
    have he:attrAt nulls xs i=7:=by unfold attrAt; simp_all<;>omega
    rw[chkA_stop nulls xs i (by omega) h0 (by rw[he]; decide),he]
    exact⟨rfl,B31⟩
   rw[show (decide ((xs.getD i at0).2.1=0):Bool)=false from by simpa using c19]
   refine xr0 3 [(25,bF)] [22] ?_
   refine nl (cf (sk (sq (X_still (by kernel_rfl) (by kernel_rfl) (fun wd32 b33 h34=>?_)))))
   refine xse 1 [] [(0,aL A xs c),(1,.bool nulls),(5,i6 (i:Int)),(6,pw wl.heap.size 0),(8,aL A xs c),(9,i6 (xs.length:Int)),(10,i6 (i:Int)),(27,i6 (i:Int))] [] trivial ?_
   by_cases c35:(i:Int)>0
   ·refine xsC 7 [(28,.eq bT),(31,.load (sT ((xs.getD i at0).1))),(34,.eq (i6 ((i:Int)-1)))] [(29,bT),(31,sT ((xs.getD i at0).1)),(32,aL A xs c),(34,i6 ((i:Int)-1))] [5,6,27] [_,_,_] ⟨dT c35,lc 9 (Blk.below k12 (bt (bt b15 b18) b33)) 0,w6 ((i:Int)-1),trivial⟩ ?_
    have B36:Below w.heap.size w wd32:=(bt (bt (bt (bg (bt HB b6) g11 (HB).size) b15) b18) b33)
    obtain⟨ad37,a38,hc39⟩:=Kd.atAttr (Kd.C_below hx B36) (i:=(i:Int)-1) (by omega) (by omega)
    replace hc39:CellsAt wd32 (ad37.add (((i:Int)-1).toNat*4)) [sT ((xs.getD ((i:Int)-1).toNat at0).1),i6 ((xs.getD ((i:Int)-1).toNat at0).2.1),i6 ((xs.getD ((i:Int)-1).toNat at0).2.2.1),sT ((xs.getD ((i:Int)-1).toNat at0).2.2.2)]:=hc39
    refine xsC 3 [(35,.idx ad37),(37,.load (sT ((xs.getD ((i:Int)-1).toNat at0).1)))] [(37,sT ((xs.getD ((i:Int)-1).toNat at0).1))] [32,34] [A=some ad37,(0:Int)≤(i:Int)-1,(i:Int)-1<(xs.length:Int),la 9 (ad37.add (((i:Int)-1).toNat*4)) (sT ((xs.getD ((i:Int)-1).toNat at0).1)) wd32] ⟨a38,(by omega),(by omega),loads1 rfl (elem_cell hc39 0 _ rfl),trivial⟩ ?_
    by_cases c40:((Op.bytesLess ((xs.getD i at0).1).toList ((xs.getD ((i:Int)-1).toNat at0).1).toList||(((xs.getD i at0).1).toList==((xs.getD ((i:Int)-1).toNat at0).1).toList)))=true
    ·refine xsC 2 [(38,.eq bT)] [(39,bT)] [29,31,37] [Value.bool ((Op.bytesLess ((xs.getD i at0).1).toList ((xs.getD ((i:Int)-1).toNat at0).1).toList||(((xs.getD i at0).1).toList==((xs.getD ((i:Int)-1).toNat at0).1).toList)))=bT] ⟨congrArg Value.bool (c40),trivial⟩ ?_
     refine XS_nil ?_
     refine ct (sg (xe 2 [(40,.load (.iface 208 (.pointer (some (errAt es 8)))))] [(4,.iface 208 (.pointer (some (errAt es 8))))] [la 45 (⟨10,0,none⟩) (.iface 208 (.pointer (some (errAt es 8)))) wd32] ⟨loads1 rfl ((B36.cell (World.block_lt_of_cell? _ _ (hE.load 8 10 (by decide) (by decide) rfl))).trans (hE.load 8 10 (by decide) (by decide) rfl)),trivial⟩ ?_))
     refine nl (X_ret (rj [.iface 208 (.pointer (some (errAt es 8)))] hR_ ?_))
     (try simp only[hz]at *)
     have he:attrAt nulls xs i=8:=by unfold attrAt; simp_all<;>omega
     rw[chkA_stop nulls xs i (by omega) h0 (by rw[he]; decide),he]
     exact⟨rfl,B36⟩
    refine xsC 2 [(38,.eq bF)] [(39,bF)] [29,31,37] [Value.bool ((Op.bytesLess ((xs.getD i at0).1).toList ((xs.getD ((i:Int)-1).toNat at0).1).toList||(((xs.getD i at0).1).toList==((xs.getD ((i:Int)-1).toNat at0).1).toList)))=bF] ⟨congrArg Value.bool (Bool.eq_false_iff.2 (c40)),trivial⟩ ?_
    refine XS_nil ?_
    refine cf (sk (rg (xr1 2 [(41,.eq (i6 ((i:Int)+1)))] [(10,i6 ((i:Int)+1))] [39] (w6 ((i:Int)+1)) ?_)))
    refine nl ?_
    refine⟨(i+1),by kernel_rfl,?_,?_⟩
    ·(try simp only[hz]at *)
     exact⟨by omega,chkUpto_succ _ _ _ h0 (by unfold attrAt; simp_all<;>omega),B36⟩
    (try dsimp only); omega
   refine xsC 12 [(28,.eq bF)] [(39,bF)] [5,6,27] [_] ⟨dF c35,trivial⟩ ?_
   refine XS_nil ?_
   refine cf (sk (rg (xr1 2 [(41,.eq (i6 ((i:Int)+1)))] [(10,i6 ((i:Int)+1))] [39] (w6 ((i:Int)+1)) ?_)))
   refine nl ?_
   have B41:Below w.heap.size w wd32:=(bt (bt (bt (bg (bt HB b6) g11 (HB).size) b15) b18) b33)
   refine⟨(i+1),by kernel_rfl,?_,?_⟩
   ·(try simp only[hz]at *)
    exact⟨by omega,chkUpto_succ _ _ _ h0 (by unfold attrAt; simp_all<;>omega),B41⟩
   (try dsimp only); omega
  rw[errV_pos es (pairErr (xs.getD i at0)) (Nat.pos_of_ne_zero c16)]
  refine xr0 1 [(7,.iface 208 (.pointer (some (errAt es (pairErr (xs.getD i at0)))))),(18,bT)] [17] ?_
  refine nl (ct (sg (xe0 2 [(4,.iface 208 (.pointer (some (errAt es (pairErr (xs.getD i at0))))))] ?_)))
  refine nl (X_ret (rj [.iface 208 (.pointer (some (errAt es (pairErr (xs.getD i at0)))))] hR_ ?_))
  have B42:Below w.heap.size w w14:=(bt (bg (bt HB b6) g11 (HB).size) b15)
  (try simp only[hz]at *)
  have he:attrAt nulls xs i=(pairErr (xs.getD i at0)):=by unfold attrAt; simp_all<;>omega
  rw[chkA_stop nulls xs i (by omega) h0 (by rw[he]; exact c16),he,errV_pos es _ (Nat.pos_of_ne_zero c16)]
  exact⟨rfl,B42⟩
 refine xr1 1 [(11,.eq bF)] [(11,bF)] [] (dF c1) ?_
 refine nl (sq (cf (X_exit (sg (xe0 1 [(4,.nilIface)] ?_)))))
 refine nl (X_ret (rj [.nilIface] hR_ ?_))
 rw[show chkA nulls xs=0 from by unfold chkA; rw[show xs.length=i from by omega]; exact h0]
 exact⟨rfl,HB⟩
end Go.Proofs.YtlnnjfdonilgmaaGreatDoor
