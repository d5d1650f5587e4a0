import Derived.Test.YtgphmfnkeolbcaaGreatDoorStr2
import Derived.Test.YtgphmfnkeolbcaaGreatDoorR1
/- What the references of layers content and ops answer: what the program answers. Conditions: sizes, the tables of utf8. -/
set_option linter.unusedVariables false
set_option linter.unusedSimpArgs false
set_option maxRecDepth 100000
namespace Go.Proofs.YtgphmfnkeolbcaaGreatDoor
open Go Go.RowKit Go.Proofs.YtgphmfnkeolbcaaGreatDoorW.PrintWords RX
theorem ent202 :Ent Tryz.prog 202:=ent_of Tryz.func202 (by kernel_rfl) rfl
theorem ent66 :Ent Tryz.prog 66:=ent_of Tryz.func66 (by kernel_rfl) rfl
theorem ent201 :Ent Tryz.prog 201:=ent_of Tryz.func201 (by kernel_rfl) rfl
theorem ent163 :Ent Tryz.prog 163:=ent_of Tryz.func163 (by kernel_rfl) rfl
theorem opSz.b {o:OpA}(h:opSz o):o.text.size≤100000000∧o.vt.size≤100000000:=by have h1:=h.1; have h2:=h.2.1; omega
set_option maxHeartbeats 2000000 in
theorem r4refuse_any (o:OpA)(A:Option Addr)(c:Nat)(w:World)(hA:kAttr.C w A o.attrs.length o.attrs)(hz:opSz o)(hT:Tabs w):Rt 202 #[.agg (o7A o (.slice A o.attrs.length c))] w (i6 (refuseP o:Int)):=by
 have hz1:=hz.b.1
 have hz2:=hz.b.2
 refine en Tryz.func202 rfl 65 [(0,.agg (o7A o (aL A o.attrs c)))] (fun R_ hR_=>?_)
 refine sg (xwe 1 [] [(1,pw w.heap.size 0)] (w.alloc (.cells (o7A o (aL A o.attrs c)) 102)) [] trivial ?_)
 obtain⟨w1,w5,b2,k3,z4⟩:=new_world w (o7A o (aL A o.attrs c)) 102
 rw[w5]
 refine xr0 1 [] [] ?_
 refine nl (sq (bk (sg (xr1 2 [(7,.load (i6 o.kind))] [(7,i6 o.kind)] [] (lc 3 k3 0) ?_))))
 by_cases c6:o.kind=1
 ·refine xr1 7 [(8,.eq bF)] [(5,bF)] [7] (nF c6) ?_
  refine nl (cf (sg (xr1 2 [(16,.load (i6 o.count))] [(16,i6 o.count)] [5] (lc 3 k3 5) ?_)))
  by_cases c7:o.count=0
  ·refine xr1 2 [(17,.eq bF)] [(14,bF)] [16] (nF c7) ?_
   refine nl (cf (sg (xe 6 [(20,.load (i6 o.kind)),(21,.eq bT),(24,.load (sT o.text))] [(1,pw w.heap.size 0),(22,bT),(24,sT o.text)] [_,_,_] ⟨lc 3 k3 0,bE c6,lc 9 k3 1,trivial⟩ ?_)))
   by_cases c8:o.text=(⟨#[]⟩:ByteArray)
   ·refine xr 9 [(25,.eq bT)] [(18,bT)] [22,24] [Value.bool (o.text.toList==(⟨#[]⟩:ByteArray).toList)=bT] ⟨congrArg Value.bool (strEqT (c8)),trivial⟩ ?_
    refine nl (ct (sg (xe0 1 [(2,i6 9)] ?_)))
    refine nl (X_ret (rj [i6 9] hR_ ?_))
    rw[show refuseP o=9 from by unfold refuseP; simp_all<;>omega]
    exact⟨rfl,b2⟩
   refine xr 5 [(25,.eq bF),(28,.load (.agg #[i6 o.vk,i6 o.vn,sT o.vt]))] [(26,bF),(28,.agg #[i6 o.vk,i6 o.vn,sT o.vt]),(29,.agg #[i6 0,i6 0,s0])] [24] [Value.bool (o.text.toList==(⟨#[]⟩:ByteArray).toList)=bF,la 48 (⟨w.heap.size,2,none⟩) (.agg #[i6 o.vk,i6 o.vn,sT o.vt]) w1] ⟨congrArg Value.bool (strEqF (c8)),loadsB rfl rfl k3 2 ⟨by kernel_rfl,by kernel_rfl⟩,trivial⟩ ?_
   by_cases c9:(o.vk,o.vn,o.vt)=pl0
   ·refine xr 4 [(30,.as bF)] [(18,bF)] [22,26,28,29] [RunsAs Tryz.prog [(28,.agg #[i6 o.vk,i6 o.vn,sT o.vt]),(29,.agg #[i6 0,i6 0,s0])] (Go.Op.binOp Go.BinOp.neq 48 (Go.Operand.tmp 28) (Go.Operand.tmp 29) 48) 4 bF w1] ⟨runs_bin rfl rfl (run_eqGuard_agg _ _ _ _ _ _ _ (by kernel_rfl)) (by have h:=plain_neq (o.vk,o.vn,o.vt) pl0 w1; rw[show ple (o.vk,o.vn,o.vt) pl0=true from(ple_iff _ _).2 c9]at h; exact h),trivial⟩ ?_
    refine nl (cf (sg (xr1 2 [(35,.load (i6 o.kind))] [(35,i6 o.kind)] [18] (lc 3 k3 0) ?_)))
    by_cases c10:o.kind=2
    ·refine xr 9 [(36,.eq bT),(39,.load (sT o.text)),(40,.eq bF),(43,.load (sT o.text))] [(37,bT),(41,bF),(44,i6 (o.text.size:Int))] [35] [_,_,Value.bool (o.text.toList==(⟨#[]⟩:ByteArray).toList)=bF,_] ⟨bE c10,lc 9 k3 1,congrArg Value.bool (strEqF (c8)),lc 9 k3 1,trivial⟩ ?_
     by_cases c11:(o.text.size:Int)>64
     ·refine xr1 4 [(45,.eq bT)] [(33,bT)] [37,41,44] (dT c11) ?_
      refine nl (ct (sg (xe0 1 [(2,i6 6)] ?_)))
      refine nl (X_ret (rj [i6 6] hR_ ?_))
      rw[show refuseP o=6 from by unfold refuseP; simp_all<;>omega]
      exact⟨rfl,b2⟩
     refine xr1 4 [(45,.eq bF)] [(33,bF)] [37,41,44] (dF c11) ?_
     refine nl (cf (sk (sg (xe1 2 [(49,.load (sT o.text))] [(1,pw w.heap.size 0),(49,sT o.text)] (lc 9 k3 1) ?_))))
     refine xc 218 ent218 [sT o.text] (utf8_any o.text _ (by omega)) ?_
     rintro e w12 ⟨rfl,b13⟩; refine⟨_,rfl,?_⟩
     refine xr0 1 [(3,.bool ((uchk o.text).2))] [49,50] ?_
     refine nl (sq (sg (xr0 1 [(51,.bool ((uchk o.text).2))] [3] ?_)))
     by_cases c14:(uchk o.text).2=true
     ·rw[show ((uchk o.text).2:Bool)=true from by simpa using c14]
      refine xr0 1 [(52,bF)] [51] ?_
      refine nl (cf (sk (sq (sg (xr 3 [(54,.load (i6 o.kind)),(55,.eq bT)] [(55,bT)] [52] [_,_] ⟨lc 3 (Blk.below k3 b13) 0,bE c10,trivial⟩ ?_)))))
      refine nl (ct (sg (xr 2 [(57,.load (.agg #[i6 o.vk,i6 o.vn,sT o.vt]))] [(57,.agg #[i6 o.vk,i6 o.vn,sT o.vt])] [55] [la 48 (⟨w.heap.size,2,none⟩) (.agg #[i6 o.vk,i6 o.vn,sT o.vt]) w12] ⟨loadsB rfl rfl (Blk.below k3 b13) 2 ⟨by kernel_rfl,by kernel_rfl⟩,trivial⟩ ?_)))
      refine xc 155 ent155 [.agg #[i6 o.vk,i6 o.vn,sT o.vt]] (r2check_any o.vk o.vn o.vt _ (by omega)) ?_
      rintro e w15 ⟨rfl,b16⟩; refine⟨_,rfl,?_⟩
      refine xe0 1 [(1,pw w.heap.size 0),(4,i6 (plainErr o.vk o.vn o.vt:Int))] ?_
      refine nl (sg (xr0 1 [(59,i6 (plainErr o.vk o.vn o.vt:Int))] [] ?_))
      by_cases c17:(plainErr o.vk o.vn o.vt:Int)=0
      ·refine xr1 1 [(60,.eq bF)] [(60,bF)] [59] (nF c17) ?_
       refine nl (cf (sk (sg (xe1 2 [(63,.load (aL A o.attrs c))] [(63,aL A o.attrs c)] (lc 49 (Blk.below k3 (bt b13 b16)) 6) ?_))))
       refine xc 156 ent156 [.slice A o.attrs.length c,bF] (r3check_any _ _ o.attrs false _ (Kd.C_below hA (bt (bt b2 b13) b16)) hz.2.2.2 (hT.below (bt (bt b2 b13) b16))) ?_
       rintro e w18 ⟨rfl,b19⟩; refine⟨_,rfl,?_⟩
       refine xe0 1 [(2,i6 (chkA false o.attrs:Int))] ?_
       refine nl (X_ret (rj [i6 (chkA false o.attrs:Int)] hR_ ?_))
       rw[show refuseP o=chkA false o.attrs from by unfold refuseP; simp_all<;>omega]
       exact⟨rfl,(bt (bt (bt b2 b13) b16) b19)⟩
      refine xr1 1 [(60,.eq bT)] [(60,bT)] [59] (nT c17) ?_
      refine nl (ct (sg (xe0 2 [(2,i6 (plainErr o.vk o.vn o.vt:Int))] ?_)))
      refine nl (X_ret (rj [i6 (plainErr o.vk o.vn o.vt:Int)] hR_ ?_))
      rw[show refuseP o=plainErr o.vk o.vn o.vt from by unfold refuseP; simp_all<;>omega]
      exact⟨rfl,(bt (bt b2 b13) b16)⟩
     rw[show ((uchk o.text).2:Bool)=false from by simpa using c14]
     refine xr0 1 [(52,bT)] [51] ?_
     refine nl (ct (sg (xe0 1 [(2,i6 1)] ?_)))
     refine nl (X_ret (rj [i6 1] hR_ ?_))
     rw[show refuseP o=1 from by unfold refuseP; simp_all<;>omega]
     exact⟨rfl,(bt b2 b13)⟩
    refine xr1 13 [(36,.eq bF)] [(33,bF)] [35] (bN c10) ?_
    refine nl (cf (sk (sg (xr1 2 [(49,.load (sT o.text))] [(49,sT o.text)] [33] (lc 9 k3 1) ?_))))
    refine xc 218 ent218 [sT o.text] (utf8_any o.text _ (by omega)) ?_
    rintro e w20 ⟨rfl,b21⟩; refine⟨_,rfl,?_⟩
    refine xe0 1 [(1,pw w.heap.size 0),(3,.bool ((uchk o.text).2))] ?_
    refine nl (sq (sg (xr0 1 [(51,.bool ((uchk o.text).2))] [3] ?_)))
    by_cases c22:(uchk o.text).2=true
    ·rw[show ((uchk o.text).2:Bool)=true from by simpa using c22]
     refine xr0 1 [(52,bF)] [51] ?_
     refine nl (cf (sk (sq (sg (xr 3 [(54,.load (i6 o.kind)),(55,.eq bF)] [(55,bF)] [52] [_,_] ⟨lc 3 (Blk.below k3 b21) 0,bN c10,trivial⟩ ?_)))))
     refine nl (cf (sk (sg (xe1 2 [(63,.load (aL A o.attrs c))] [(63,aL A o.attrs c)] (lc 49 (Blk.below k3 b21) 6) ?_))))
     refine xc 156 ent156 [.slice A o.attrs.length c,bF] (r3check_any _ _ o.attrs false _ (Kd.C_below hA (bt b2 b21)) hz.2.2.2 (hT.below (bt b2 b21))) ?_
     rintro e w23 ⟨rfl,b24⟩; refine⟨_,rfl,?_⟩
     refine xe0 1 [(2,i6 (chkA false o.attrs:Int))] ?_
     refine nl (X_ret (rj [i6 (chkA false o.attrs:Int)] hR_ ?_))
     rw[show refuseP o=chkA false o.attrs from by unfold refuseP; simp_all<;>omega]
     exact⟨rfl,(bt (bt b2 b21) b24)⟩
    rw[show ((uchk o.text).2:Bool)=false from by simpa using c22]
    refine xr0 1 [(52,bT)] [51] ?_
    refine nl (ct (sg (xe0 1 [(2,i6 1)] ?_)))
    refine nl (X_ret (rj [i6 1] hR_ ?_))
    rw[show refuseP o=1 from by unfold refuseP; simp_all<;>omega]
    exact⟨rfl,(bt b2 b21)⟩
   refine xr 4 [(30,.as bT)] [(18,bT)] [22,26,28,29] [RunsAs Tryz.prog [(28,.agg #[i6 o.vk,i6 o.vn,sT o.vt]),(29,.agg #[i6 0,i6 0,s0])] (Go.Op.binOp Go.BinOp.neq 48 (Go.Operand.tmp 28) (Go.Operand.tmp 29) 48) 4 bT w1] ⟨runs_bin rfl rfl (run_eqGuard_agg _ _ _ _ _ _ _ (by kernel_rfl)) (by have h:=plain_neq (o.vk,o.vn,o.vt) pl0 w1; rw[show ple (o.vk,o.vn,o.vt) pl0=false from Bool.eq_false_iff.2 (fun k=>c9 ((ple_iff _ _).1 k))]at h; exact h),trivial⟩ ?_
   refine nl (ct (sg (xe0 1 [(2,i6 9)] ?_)))
   refine nl (X_ret (rj [i6 9] hR_ ?_))
   rw[show refuseP o=9 from by unfold refuseP; simp_all<;>omega]
   exact⟨rfl,b2⟩
  refine xr1 2 [(17,.eq bT)] [(14,bT)] [16] (nT c7) ?_
  refine nl (ct (sg (xe0 1 [(2,i6 9)] ?_)))
  refine nl (X_ret (rj [i6 9] hR_ ?_))
  rw[show refuseP o=9 from by unfold refuseP; simp_all<;>omega]
  exact⟨rfl,b2⟩
 refine xr 4 [(8,.eq bT),(11,.load (i6 o.kind))] [(9,bT),(11,i6 o.kind)] [7] [_,_] ⟨nT c6,lc 3 k3 0,trivial⟩ ?_
 by_cases c25:o.kind=2
 ·refine xr1 3 [(12,.eq bF)] [(5,bF)] [9,11] (nF c25) ?_
  refine nl (cf (sg (xr1 2 [(16,.load (i6 o.count))] [(16,i6 o.count)] [5] (lc 3 k3 5) ?_)))
  by_cases c26:o.count=0
  ·refine xe1 2 [(17,.eq bF)] [(1,pw w.heap.size 0),(14,bF)] (nF c26) ?_
   refine nl (cf (sg (xr 15 [(20,.load (i6 o.kind)),(21,.eq bF)] [(18,bF)] [14] [_,_] ⟨lc 3 k3 0,bN c6,trivial⟩ ?_)))
   refine nl (cf (sg (xr 6 [(35,.load (i6 o.kind)),(36,.eq bT),(39,.load (sT o.text))] [(37,bT),(39,sT o.text)] [18] [_,_,_] ⟨lc 3 k3 0,bE c25,lc 9 k3 1,trivial⟩ ?_)))
   by_cases c27:o.text=(⟨#[]⟩:ByteArray)
   ·refine xr 9 [(40,.eq bT)] [(33,bT)] [37,39] [Value.bool (o.text.toList==(⟨#[]⟩:ByteArray).toList)=bT] ⟨congrArg Value.bool (strEqT (c27)),trivial⟩ ?_
    refine nl (ct (sg (xe0 1 [(2,i6 6)] ?_)))
    refine nl (X_ret (rj [i6 6] hR_ ?_))
    rw[show refuseP o=6 from by unfold refuseP; simp_all<;>omega]
    exact⟨rfl,b2⟩
   refine xr 5 [(40,.eq bF),(43,.load (sT o.text))] [(41,bF),(44,i6 (o.text.size:Int))] [39] [Value.bool (o.text.toList==(⟨#[]⟩:ByteArray).toList)=bF,_] ⟨congrArg Value.bool (strEqF (c27)),lc 9 k3 1,trivial⟩ ?_
   by_cases c28:(o.text.size:Int)>64
   ·refine xr1 4 [(45,.eq bT)] [(33,bT)] [37,41,44] (dT c28) ?_
    refine nl (ct (sg (xe0 1 [(2,i6 6)] ?_)))
    refine nl (X_ret (rj [i6 6] hR_ ?_))
    rw[show refuseP o=6 from by unfold refuseP; simp_all<;>omega]
    exact⟨rfl,b2⟩
   refine xr1 4 [(45,.eq bF)] [(33,bF)] [37,41,44] (dF c28) ?_
   refine nl (cf (sk (sg (xr1 2 [(49,.load (sT o.text))] [(49,sT o.text)] [33] (lc 9 k3 1) ?_))))
   refine xc 218 ent218 [sT o.text] (utf8_any o.text _ (by omega)) ?_
   rintro e w29 ⟨rfl,b30⟩; refine⟨_,rfl,?_⟩
   refine xe0 1 [(1,pw w.heap.size 0),(3,.bool ((uchk o.text).2))] ?_
   refine nl (sq (sg (xr0 1 [(51,.bool ((uchk o.text).2))] [3] ?_)))
   by_cases c31:(uchk o.text).2=true
   ·rw[show ((uchk o.text).2:Bool)=true from by simpa using c31]
    refine xr0 1 [(52,bF)] [51] ?_
    refine nl (cf (sk (sq (sg (xr 3 [(54,.load (i6 o.kind)),(55,.eq bT)] [(55,bT)] [52] [_,_] ⟨lc 3 (Blk.below k3 b30) 0,bE c25,trivial⟩ ?_)))))
    refine nl (ct (sg (xr 2 [(57,.load (.agg #[i6 o.vk,i6 o.vn,sT o.vt]))] [(57,.agg #[i6 o.vk,i6 o.vn,sT o.vt])] [55] [la 48 (⟨w.heap.size,2,none⟩) (.agg #[i6 o.vk,i6 o.vn,sT o.vt]) w29] ⟨loadsB rfl rfl (Blk.below k3 b30) 2 ⟨by kernel_rfl,by kernel_rfl⟩,trivial⟩ ?_)))
    refine xc 155 ent155 [.agg #[i6 o.vk,i6 o.vn,sT o.vt]] (r2check_any o.vk o.vn o.vt _ (by omega)) ?_
    rintro e w32 ⟨rfl,b33⟩; refine⟨_,rfl,?_⟩
    refine xr0 1 [(4,i6 (plainErr o.vk o.vn o.vt:Int))] [57,58] ?_
    refine nl (sg (xe0 1 [(1,pw w.heap.size 0),(4,i6 (plainErr o.vk o.vn o.vt:Int)),(59,i6 (plainErr o.vk o.vn o.vt:Int))] ?_))
    by_cases c34:(plainErr o.vk o.vn o.vt:Int)=0
    ·refine xr1 1 [(60,.eq bF)] [(60,bF)] [59] (nF c34) ?_
     refine nl (cf (sk (sg (xe1 2 [(63,.load (aL A o.attrs c))] [(63,aL A o.attrs c)] (lc 49 (Blk.below k3 (bt b30 b33)) 6) ?_))))
     refine xc 156 ent156 [.slice A o.attrs.length c,bF] (r3check_any _ _ o.attrs false _ (Kd.C_below hA (bt (bt b2 b30) b33)) hz.2.2.2 (hT.below (bt (bt b2 b30) b33))) ?_
     rintro e w35 ⟨rfl,b36⟩; refine⟨_,rfl,?_⟩
     refine xe0 1 [(2,i6 (chkA false o.attrs:Int))] ?_
     refine nl (X_ret (rj [i6 (chkA false o.attrs:Int)] hR_ ?_))
     rw[show refuseP o=chkA false o.attrs from by unfold refuseP; simp_all<;>omega]
     exact⟨rfl,(bt (bt (bt b2 b30) b33) b36)⟩
    refine xr1 1 [(60,.eq bT)] [(60,bT)] [59] (nT c34) ?_
    refine nl (ct (sg (xe0 2 [(2,i6 (plainErr o.vk o.vn o.vt:Int))] ?_)))
    refine nl (X_ret (rj [i6 (plainErr o.vk o.vn o.vt:Int)] hR_ ?_))
    rw[show refuseP o=plainErr o.vk o.vn o.vt from by unfold refuseP; simp_all<;>omega]
    exact⟨rfl,(bt (bt b2 b30) b33)⟩
   rw[show ((uchk o.text).2:Bool)=false from by simpa using c31]
   refine xr0 1 [(52,bT)] [51] ?_
   refine nl (ct (sg (xe0 1 [(2,i6 1)] ?_)))
   refine nl (X_ret (rj [i6 1] hR_ ?_))
   rw[show refuseP o=1 from by unfold refuseP; simp_all<;>omega]
   exact⟨rfl,(bt b2 b30)⟩
  refine xe1 2 [(17,.eq bT)] [(1,pw w.heap.size 0),(14,bT)] (nT c26) ?_
  refine nl (ct (sg (xe0 1 [(2,i6 9)] ?_)))
  refine nl (X_ret (rj [i6 9] hR_ ?_))
  rw[show refuseP o=9 from by unfold refuseP; simp_all<;>omega]
  exact⟨rfl,b2⟩
 refine xr1 3 [(12,.eq bT)] [(5,bT)] [9,11] (nT c25) ?_
 refine nl (ct (sg (xe0 1 [(2,i6 5)] ?_)))
 refine nl (X_ret (rj [i6 5] hR_ ?_))
 rw[show refuseP o=5 from by unfold refuseP; simp_all<;>omega]
 exact⟨rfl,b2⟩
noncomputable def len4 (o:OpA):Int:=if o.kind=2 then 1 else ((U.sc o.text).length:Int)
theorem sattrs_any (A A':Option Addr)(c c':Nat)(xs ys:List At)(w:World)(hx:kAttr.C w A xs.length xs)(hy:kAttr.C w A' ys.length ys):
  Rt 66 #[.slice A xs.length c,aL A' ys c'] w (.bool (decide (xs=ys))):=by
 have hpl:xs.length≤9223372036854775807:=hx.2.1
 refine en Tryz.func66 rfl 26 [(0,aL A xs c),(1,aL A' ys c')] (fun R_ hR_=>?_)
 refine sg (xe0 1 [(0,aL A xs c),(1,aL A' ys c')] ?_)
 refine nl (sq (sg (xr0 4 [(7,i6 (xs.length:Int)),(9,i6 (ys.length:Int))] [] ?_)))
 by_cases c1:(xs.length:Int)=(ys.length:Int)
 ·refine xr1 1 [(10,.eq bF)] [(10,bF)] [7,9] (nF c1) ?_
  refine nl (cf (sk (sq (sg (xr0 3 [(12,i6 (xs.length:Int)),(13,i6 0)] [10] ?_)))))
  refine nl (bk (X_loop (ι:=Nat) (fun i=>[(0,aL A xs c),(1,aL A' ys c'),(12,i6 (xs.length:Int)),(13,i6 (i:Int))]) (fun i wl=>i≤xs.length∧xs.length=ys.length∧(∀ q,q<i→xs.getD q at0=ys.getD q at0)∧Below w.heap.size w wl) (fun i=>xs.length-i) 0 ⟨by omega,by omega,fun q hq=>by omega,(Below.refl _ _)⟩ (by kernel_rfl) ?_))
  rintro i wl ⟨hi,hlen,hq0,HB⟩
  refine sq (X_region ?_)
  by_cases c2:(i:Int)<(xs.length:Int)
  ·refine xr1 1 [(14,.eq bT)] [(14,bT)] [] (dT c2) ?_
   refine nl (sq (ct (sk (sq (bk (sg (xr0 2 [(5,nv i)] [14] ?_)))))))
   refine nl (sq (X_still (by kernel_rfl) (by kernel_rfl) (fun wd3 b4 h5=>?_)))
   refine xsC 2 [] [(16,aL A xs c),(17,nv i)] [] [] trivial ?_
   obtain⟨ad6,a7,hc8⟩:=Kd.atAttr (Kd.C_below hx (bt HB b4)) (i:=(i:Int)) (by omega) (by omega)
   replace hc8:CellsAt wd3 (ad6.add ((i:Int).toNat*4)) [sT ((xs.getD i at0).1),i6 ((xs.getD i at0).2.1),i6 ((xs.getD i at0).2.2.1),sT ((xs.getD i at0).2.2.2)]:=hc8
   refine xsC 4 [(18,.idx ad6),(19,.load (.agg (a4 (xs.getD i at0))))] [(19,.agg (a4 (xs.getD i at0))),(20,aL A' ys c'),(21,nv i)] [5,16,17] [A=some ad6,(0:Int)≤(i:Int),(i:Int)<(xs.length:Int),la 57 (ad6.add ((i:Int).toNat*4)) (.agg (a4 (xs.getD i at0))) wd3] ⟨a7,(by omega),(by omega),loadsE rfl rfl hc8 0 ⟨by kernel_rfl,by kernel_rfl⟩,trivial⟩ ?_
   obtain⟨ad9,a10,hc11⟩:=Kd.atAttr (Kd.C_below hy (bt HB b4)) (i:=(i:Int)) (by omega) (by omega)
   replace hc11:CellsAt wd3 (ad9.add ((i:Int).toNat*4)) [sT ((ys.getD i at0).1),i6 ((ys.getD i at0).2.1),i6 ((ys.getD i at0).2.2.1),sT ((ys.getD i at0).2.2.2)]:=hc11
   refine xsC 2 [(22,.idx ad9),(23,.load (.agg (a4 (ys.getD i at0))))] [(23,.agg (a4 (ys.getD i at0)))] [20,21] [A'=some ad9,(0:Int)≤(i:Int),(i:Int)<(ys.length:Int),la 57 (ad9.add ((i:Int).toNat*4)) (.agg (a4 (ys.getD i at0))) wd3] ⟨a10,(by omega),(by omega),loadsE rfl rfl hc11 0 ⟨by kernel_rfl,by kernel_rfl⟩,trivial⟩ ?_
   by_cases c12:(xs.getD i at0)=(ys.getD i at0)
   ·refine xse 1 [(24,.as bF)] [(0,aL A xs c),(1,aL A' ys c'),(12,i6 (xs.length:Int)),(13,i6 (i:Int)),(24,bF)] [RunsAs Tryz.prog [(19,.agg (a4 (xs.getD i at0))),(23,.agg (a4 (ys.getD i at0)))] (Go.Op.binOp Go.BinOp.neq 57 (Go.Operand.tmp 19) (Go.Operand.tmp 23) 57) 4 bF wd3] ⟨runs_bin rfl rfl (run_eqGuard_agg _ _ _ _ _ _ _ (by kernel_rfl)) (by have h:=attr_neq (xs.getD i at0) (ys.getD i at0) wd3; rw[show atEq (xs.getD i at0) (ys.getD i at0)=true from(atEq_iff _ _).2 c12]at h; exact h),trivial⟩ ?_
    refine XS_nil ?_
    refine cf (sk (rg (xr1 2 [(25,.eq (i6 ((i:Int)+1)))] [(13,i6 ((i:Int)+1))] [24] (w6 ((i:Int)+1)) ?_)))
    refine nl ?_
    refine⟨(i+1),by kernel_rfl,?_,?_⟩
    ·exact⟨by omega,by omega,fun q hq=>by by_cases e:q=i; (· subst e; exact c12); (· exact hq0 q (by omega)),(bt HB b4)⟩
    (try dsimp only); omega
   refine xse 1 [(24,.as bT)] [(0,aL A xs c),(1,aL A' ys c'),(12,i6 (xs.length:Int)),(13,i6 (i:Int)),(24,bT)] [RunsAs Tryz.prog [(19,.agg (a4 (xs.getD i at0))),(23,.agg (a4 (ys.getD i at0)))] (Go.Op.binOp Go.BinOp.neq 57 (Go.Operand.tmp 19) (Go.Operand.tmp 23) 57) 4 bT wd3] ⟨runs_bin rfl rfl (run_eqGuard_agg _ _ _ _ _ _ _ (by kernel_rfl)) (by have h:=attr_neq (xs.getD i at0) (ys.getD i at0) wd3; rw[show atEq (xs.getD i at0) (ys.getD i at0)=false from Bool.eq_false_iff.2 (fun k=>c12 ((atEq_iff _ _).1 k))]at h; exact h),trivial⟩ ?_
   refine XS_nil ?_
   refine ct (sg (xe0 1 [(4,bF)] ?_))
   refine nl (X_ret (rj [bF] hR_ ?_))
   rw[decide_eq_false (fun e=>c12 (by rw[e]))]
   exact⟨rfl,(bt HB b4)⟩
  refine xr1 1 [(14,.eq bF)] [(14,bF)] [] (dF c2) ?_
  refine nl (sq (cf (X_exit (sg (xe0 1 [(4,bT)] ?_)))))
  refine nl (X_ret (rj [bT] hR_ ?_))
  rw[decide_eq_true (show xs=ys from List.ext_getElem hlen fun q h1 h2=>by have:=hq0 q (by omega); simpa [List.getD_eq_getElem?_getD,List.getElem?_eq_getElem h1,List.getElem?_eq_getElem h2] using this)]
  exact⟨rfl,HB⟩
 refine xr1 1 [(10,.eq bT)] [(10,bT)] [7,9] (nT c1) ?_
 refine nl (ct (sg (xe0 1 [(4,bF)] ?_)))
 refine nl (X_ret (rj [bF] hR_ ?_))
 rw[decide_eq_false (show ¬xs=ys from fun e=>by subst e; omega)]
 exact⟨rfl,(Below.refl _ _)⟩
set_option maxHeartbeats 2000000 in
theorem r5empty_any (o:OpA)(A:Option Addr)(c:Nat)(w:World)(hA:kAttr.C w A o.attrs.length o.attrs)(hz:opSz o):Rt 201 #[.agg (o7A o (.slice A o.attrs.length c))] w (.bool (hasP o)):=by
 refine en Tryz.func201 rfl 49 [(0,.agg (o7A o (aL A o.attrs c)))] (fun R_ hR_=>?_)
 refine sg (xwe 1 [] [(1,pw w.heap.size 0)] (w.alloc (.cells (o7A o (aL A o.attrs c)) 102)) [] trivial ?_)
 obtain⟨w1,w5,b2,k3,z4⟩:=new_world w (o7A o (aL A o.attrs c)) 102
 rw[w5]
 refine xr0 1 [] [] ?_
 refine nl (sq (sg (xr1 2 [(4,.load (i6 o.kind))] [(4,i6 o.kind)] [] (lc 3 k3 0) ?_)))
 refine nl (bk (sq (X_region ?_)))
 by_cases c6:o.kind=1
 ·refine xr1 2 [(6,.eq bT)] [(5,bT)] [] (bE c6) ?_
  refine nl (ct (sg (xr1 2 [(8,.load (i6 o.count))] [(8,i6 o.count)] [4,5] (lc 3 k3 5) ?_)))
  by_cases c7:o.count=0
  ·refine xe 5 [(9,.eq bT),(12,.load (.agg #[i6 o.vk,i6 o.vn,sT o.vt]))] [(10,bT),(12,.agg #[i6 o.vk,i6 o.vn,sT o.vt]),(13,.agg #[i6 0,i6 0,s0])] [_,la 48 (⟨w.heap.size,2,none⟩) (.agg #[i6 o.vk,i6 o.vn,sT o.vt]) w1] ⟨bE c7,loadsB rfl rfl k3 2 ⟨by kernel_rfl,by kernel_rfl⟩,trivial⟩ ?_
   by_cases c8:(o.vk,o.vn,o.vt)=pl0
   ·refine xe 3 [(14,.as bT)] [(2,bT)] [RunsAs Tryz.prog [(12,.agg #[i6 o.vk,i6 o.vn,sT o.vt]),(13,.agg #[i6 0,i6 0,s0])] (Go.Op.binOp Go.BinOp.eql 48 (Go.Operand.tmp 12) (Go.Operand.tmp 13) 48) 4 bT w1] ⟨runs_bin rfl rfl (run_eqGuard_agg _ _ _ _ _ _ _ (by kernel_rfl)) (by have h:=plain_eqb (o.vk,o.vn,o.vt) pl0 w1; rw[show ple (o.vk,o.vn,o.vt) pl0=true from(ple_iff _ _).2 c8]at h; exact h),trivial⟩ ?_
    refine nl (X_ret (rj [bT] hR_ ?_))
    rw[show hasP o=true from by unfold hasP; simp_all]
    exact⟨rfl,b2⟩
   refine xe 3 [(14,.as bF)] [(2,bF)] [RunsAs Tryz.prog [(12,.agg #[i6 o.vk,i6 o.vn,sT o.vt]),(13,.agg #[i6 0,i6 0,s0])] (Go.Op.binOp Go.BinOp.eql 48 (Go.Operand.tmp 12) (Go.Operand.tmp 13) 48) 4 bF w1] ⟨runs_bin rfl rfl (run_eqGuard_agg _ _ _ _ _ _ _ (by kernel_rfl)) (by have h:=plain_eqb (o.vk,o.vn,o.vt) pl0 w1; rw[show ple (o.vk,o.vn,o.vt) pl0=false from Bool.eq_false_iff.2 (fun k=>c8 ((ple_iff _ _).1 k))]at h; exact h),trivial⟩ ?_
   refine nl (X_ret (rj [bF] hR_ ?_))
   rw[show hasP o=false from by unfold hasP; simp_all]
   exact⟨rfl,b2⟩
  refine xe1 8 [(9,.eq bF)] [(2,bF)] (bN c7) ?_
  refine nl (X_ret (rj [bF] hR_ ?_))
  rw[show hasP o=false from by unfold hasP; simp_all]
  exact⟨rfl,b2⟩
 refine xr1 2 [(6,.eq bF)] [(5,bF)] [] (bN c6) ?_
 refine nl (cf (sq (X_region ?_)))
 by_cases c9:o.kind=2
 ·refine xr1 2 [(17,.eq bT)] [(16,bT)] [5] (bE c9) ?_
  refine nl (ct (sg (xe1 2 [(19,.load (i6 o.count))] [(19,i6 o.count)] (lc 3 k3 5) ?_)))
  by_cases c10:o.count=0
  ·refine xe1 2 [(20,.eq bT)] [(2,bT)] (bE c10) ?_
   refine nl (X_ret (rj [bT] hR_ ?_))
   rw[show hasP o=true from by unfold hasP; simp_all]
   exact⟨rfl,b2⟩
  refine xe1 2 [(20,.eq bF)] [(2,bF)] (bN c10) ?_
  refine nl (X_ret (rj [bF] hR_ ?_))
  rw[show hasP o=false from by unfold hasP; simp_all]
  exact⟨rfl,b2⟩
 refine xr1 2 [(17,.eq bF)] [(16,bF)] [5] (bN c9) ?_
 refine nl (cf (sq (X_region ?_)))
 by_cases c11:o.kind=3
 ·refine xr1 2 [(22,.eq bT)] [(21,bT)] [16] (bE c11) ?_
  refine nl (ct (sg (xe1 2 [(24,.load (sT o.text))] [(1,pw w.heap.size 0),(24,sT o.text)] (lc 9 k3 1) ?_)))
  by_cases c12:o.text=(⟨#[]⟩:ByteArray)
  ·refine xe 5 [(25,.eq bT),(28,.load (.agg #[i6 o.vk,i6 o.vn,sT o.vt]))] [(26,bT),(28,.agg #[i6 o.vk,i6 o.vn,sT o.vt]),(29,.agg #[i6 0,i6 0,s0])] [Value.bool (o.text.toList==(⟨#[]⟩:ByteArray).toList)=bT,la 48 (⟨w.heap.size,2,none⟩) (.agg #[i6 o.vk,i6 o.vn,sT o.vt]) w1] ⟨congrArg Value.bool (strEqT (c12)),loadsB rfl rfl k3 2 ⟨by kernel_rfl,by kernel_rfl⟩,trivial⟩ ?_
   by_cases c13:(o.vk,o.vn,o.vt)=pl0
   ·refine xe 3 [(30,.as bT)] [(2,bT)] [RunsAs Tryz.prog [(28,.agg #[i6 o.vk,i6 o.vn,sT o.vt]),(29,.agg #[i6 0,i6 0,s0])] (Go.Op.binOp Go.BinOp.eql 48 (Go.Operand.tmp 28) (Go.Operand.tmp 29) 48) 4 bT w1] ⟨runs_bin rfl rfl (run_eqGuard_agg _ _ _ _ _ _ _ (by kernel_rfl)) (by have h:=plain_eqb (o.vk,o.vn,o.vt) pl0 w1; rw[show ple (o.vk,o.vn,o.vt) pl0=true from(ple_iff _ _).2 c13]at h; exact h),trivial⟩ ?_
    refine nl (X_ret (rj [bT] hR_ ?_))
    rw[show hasP o=true from by unfold hasP; simp_all]
    exact⟨rfl,b2⟩
   refine xe 3 [(30,.as bF)] [(2,bF)] [RunsAs Tryz.prog [(28,.agg #[i6 o.vk,i6 o.vn,sT o.vt]),(29,.agg #[i6 0,i6 0,s0])] (Go.Op.binOp Go.BinOp.eql 48 (Go.Operand.tmp 28) (Go.Operand.tmp 29) 48) 4 bF w1] ⟨runs_bin rfl rfl (run_eqGuard_agg _ _ _ _ _ _ _ (by kernel_rfl)) (by have h:=plain_eqb (o.vk,o.vn,o.vt) pl0 w1; rw[show ple (o.vk,o.vn,o.vt) pl0=false from Bool.eq_false_iff.2 (fun k=>c13 ((ple_iff _ _).1 k))]at h; exact h),trivial⟩ ?_
   refine nl (X_ret (rj [bF] hR_ ?_))
   rw[show hasP o=false from by unfold hasP; simp_all]
   exact⟨rfl,b2⟩
  refine xe 8 [(25,.eq bF)] [(2,bF)] [Value.bool (o.text.toList==(⟨#[]⟩:ByteArray).toList)=bF] ⟨congrArg Value.bool (strEqF (c12)),trivial⟩ ?_
  refine nl (X_ret (rj [bF] hR_ ?_))
  rw[show hasP o=false from by unfold hasP; simp_all]
  exact⟨rfl,b2⟩
 refine xr1 2 [(22,.eq bF)] [(21,bF)] [16] (bN c11) ?_
 refine nl (cf (sq (X_region ?_)))
 by_cases c14:o.kind=4
 ·refine xe1 2 [(33,.eq bT)] [(1,pw w.heap.size 0),(32,bT)] (bE c14) ?_
  refine nl (ct (sg (xr1 2 [(35,.load (sT o.text))] [(35,sT o.text)] [32] (lc 9 k3 1) ?_)))
  by_cases c15:o.text=(⟨#[]⟩:ByteArray)
  ·refine xr 5 [(36,.eq bT),(39,.load (.agg #[i6 o.vk,i6 o.vn,sT o.vt]))] [(37,bT),(39,.agg #[i6 o.vk,i6 o.vn,sT o.vt]),(40,.agg #[i6 0,i6 0,s0])] [35] [Value.bool (o.text.toList==(⟨#[]⟩:ByteArray).toList)=bT,la 48 (⟨w.heap.size,2,none⟩) (.agg #[i6 o.vk,i6 o.vn,sT o.vt]) w1] ⟨congrArg Value.bool (strEqT (c15)),loadsB rfl rfl k3 2 ⟨by kernel_rfl,by kernel_rfl⟩,trivial⟩ ?_
   by_cases c16:(o.vk,o.vn,o.vt)=pl0
   ·refine xe 6 [(41,.as bT),(45,.load (aL A o.attrs c))] [(43,bT),(46,i6 (o.attrs.length:Int))] [RunsAs Tryz.prog [(39,.agg #[i6 o.vk,i6 o.vn,sT o.vt]),(40,.agg #[i6 0,i6 0,s0])] (Go.Op.binOp Go.BinOp.eql 48 (Go.Operand.tmp 39) (Go.Operand.tmp 40) 48) 4 bT w1,_] ⟨runs_bin rfl rfl (run_eqGuard_agg _ _ _ _ _ _ _ (by kernel_rfl)) (by have h:=plain_eqb (o.vk,o.vn,o.vt) pl0 w1; rw[show ple (o.vk,o.vn,o.vt) pl0=true from(ple_iff _ _).2 c16]at h; exact h),lc 49 k3 6,trivial⟩ ?_
    by_cases c17:(o.attrs.length:Int)=0
    ·refine xe1 3 [(47,.eq bT)] [(2,bT)] (bE c17) ?_
     refine nl (X_ret (rj [bT] hR_ ?_))
     rw[show hasP o=true from by unfold hasP; simp_all]
     exact⟨rfl,b2⟩
    refine xe1 3 [(47,.eq bF)] [(2,bF)] (bN c17) ?_
    refine nl (X_ret (rj [bF] hR_ ?_))
    rw[show hasP o=false from by unfold hasP; simp_all]
    exact⟨rfl,b2⟩
   refine xe 9 [(41,.as bF)] [(2,bF)] [RunsAs Tryz.prog [(39,.agg #[i6 o.vk,i6 o.vn,sT o.vt]),(40,.agg #[i6 0,i6 0,s0])] (Go.Op.binOp Go.BinOp.eql 48 (Go.Operand.tmp 39) (Go.Operand.tmp 40) 48) 4 bF w1] ⟨runs_bin rfl rfl (run_eqGuard_agg _ _ _ _ _ _ _ (by kernel_rfl)) (by have h:=plain_eqb (o.vk,o.vn,o.vt) pl0 w1; rw[show ple (o.vk,o.vn,o.vt) pl0=false from Bool.eq_false_iff.2 (fun k=>c16 ((ple_iff _ _).1 k))]at h; exact h),trivial⟩ ?_
   refine nl (X_ret (rj [bF] hR_ ?_))
   rw[show hasP o=false from by unfold hasP; simp_all]
   exact⟨rfl,b2⟩
  refine xe 14 [(36,.eq bF)] [(2,bF)] [Value.bool (o.text.toList==(⟨#[]⟩:ByteArray).toList)=bF] ⟨congrArg Value.bool (strEqF (c15)),trivial⟩ ?_
  refine nl (X_ret (rj [bF] hR_ ?_))
  rw[show hasP o=false from by unfold hasP; simp_all]
  exact⟨rfl,b2⟩
 refine xe1 2 [(33,.eq bF)] [(1,pw w.heap.size 0),(32,bF)] (bN c14) ?_
 refine nl (cf (sk (sg (xe0 1 [(2,bF)] ?_))))
 refine nl (X_ret (rj [bF] hR_ ?_))
 rw[show hasP o=false from by unfold hasP; simp_all]
 exact⟨rfl,b2⟩
theorem r5check_any (o:OpA)(A:Option Addr)(c:Nat)(w:World)(hA:kAttr.C w A o.attrs.length o.attrs)(hz:opSz o)(hT:Tabs w):Rt 163 #[.agg (o7A o (.slice A o.attrs.length c))] w (i6 (pErr o:Int)):=by
 refine en Tryz.func163 rfl 28 [(0,.agg (o7A o (aL A o.attrs c)))] (fun R_ hR_=>?_)
 refine sg (xwe 1 [] [(1,pw w.heap.size 0)] (w.alloc (.cells (o7A o (aL A o.attrs c)) 102)) [] trivial ?_)
 obtain⟨w1,w5,b2,k3,z4⟩:=new_world w (o7A o (aL A o.attrs c)) 102
 rw[w5]
 refine xr0 1 [] [] ?_
 refine nl (sq (sg (xr 1 [(3,.load (.agg (o7A o (aL A o.attrs c))))] [(3,.agg (o7A o (aL A o.attrs c)))] [] [la 102 (⟨w.heap.size,0,none⟩) (.agg (o7A o (aL A o.attrs c))) w1] ⟨loadsB rfl rfl k3 0 ⟨by kernel_rfl,by kernel_rfl⟩,trivial⟩ ?_)))
 refine xc 201 ent201 [.agg (o7A o (aL A o.attrs c))] (r5empty_any o _ _ _ (Kd.C_below hA b2) hz) ?_
 rintro e w_6 ⟨rfl,b7⟩; refine⟨_,rfl,?_⟩
 by_cases c8:hasP o=true
 ·rw[show (hasP o:Bool)=true from by simpa using c8]
  refine xr0 1 [(5,bF)] [3,4] ?_
  refine nl (cf (sk (sq (sg (xr1 2 [(7,.load (i6 o.kind))] [(7,i6 o.kind)] [5] (lc 3 (Blk.below k3 b7) 0) ?_)))))
  by_cases c9:o.kind=1
  ·refine xr1 6 [(8,.eq bT)] [(13,bT)] [7] (bE c9) ?_
   refine nl (ct (sg (xe 1 [(14,.load (.agg (o7A o (aL A o.attrs c))))] [(14,.agg (o7A o (aL A o.attrs c)))] [la 102 (⟨w.heap.size,0,none⟩) (.agg (o7A o (aL A o.attrs c))) w_6] ⟨loadsB rfl rfl (Blk.below k3 b7) 0 ⟨by kernel_rfl,by kernel_rfl⟩,trivial⟩ ?_)))
   refine xc 202 ent202 [.agg (o7A o (aL A o.attrs c))] (r4refuse_any o _ _ _ (Kd.C_below hA (bt b2 b7)) hz (hT.below (bt b2 b7))) ?_
   rintro e w10 ⟨rfl,b11⟩; refine⟨_,rfl,?_⟩
   refine xe0 1 [(2,i6 (refuseP o:Int))] ?_
   refine nl (X_ret (rj [i6 (refuseP o:Int)] hR_ ?_))
   have hpe:pErr o=refuseP o:=by unfold pErr; simp_all
   rw[hpe]
   exact⟨rfl,(bt (bt b2 b7) b11)⟩
  refine xr 4 [(8,.eq bF),(11,.load (i6 o.kind))] [(9,bF),(11,i6 o.kind)] [7] [_,_] ⟨bN c9,lc 3 (Blk.below k3 b7) 0,trivial⟩ ?_
  by_cases c12:o.kind=2
  ·refine xe1 2 [(12,.eq bT)] [(1,pw w.heap.size 0),(13,bT)] (bE c12) ?_
   refine nl (ct (sg (xe 1 [(14,.load (.agg (o7A o (aL A o.attrs c))))] [(14,.agg (o7A o (aL A o.attrs c)))] [la 102 (⟨w.heap.size,0,none⟩) (.agg (o7A o (aL A o.attrs c))) w_6] ⟨loadsB rfl rfl (Blk.below k3 b7) 0 ⟨by kernel_rfl,by kernel_rfl⟩,trivial⟩ ?_)))
   refine xc 202 ent202 [.agg (o7A o (aL A o.attrs c))] (r4refuse_any o _ _ _ (Kd.C_below hA (bt b2 b7)) hz (hT.below (bt b2 b7))) ?_
   rintro e w13 ⟨rfl,b14⟩; refine⟨_,rfl,?_⟩
   refine xe0 1 [(2,i6 (refuseP o:Int))] ?_
   refine nl (X_ret (rj [i6 (refuseP o:Int)] hR_ ?_))
   have hpe:pErr o=refuseP o:=by unfold pErr; simp_all
   rw[hpe]
   exact⟨rfl,(bt (bt b2 b7) b14)⟩
  refine xe1 2 [(12,.eq bF)] [(1,pw w.heap.size 0),(13,bF)] (bN c12) ?_
  refine nl (cf (sk (sq (sg (xr1 2 [(17,.load (i6 o.count))] [(17,i6 o.count)] [13] (lc 3 (Blk.below k3 b7) 5) ?_)))))
  by_cases c15:o.count<1
  ·refine xr1 1 [(18,.eq bT)] [(18,bT)] [17] (dT c15) ?_
   refine nl (ct (sg (xe0 1 [(2,i6 9)] ?_)))
   refine nl (X_ret (rj [i6 9] hR_ ?_))
   have hpe:pErr o=9:=by rw[pErr_small c8 c9 c12]; first|(rw[if_pos (by omega)]; done)|(rw[if_neg (by omega),if_pos (by omega)]; done)|(rw[if_neg (by omega),if_neg (by omega),if_pos (by omega)]; done)|(rw[if_neg (by omega),if_neg (by omega),if_neg (by omega)])
   rw[hpe]
   exact⟨rfl,(bt b2 b7)⟩
  refine xr1 1 [(18,.eq bF)] [(18,bF)] [17] (dF c15) ?_
  refine nl (cf (sk (sq (sg (xr1 2 [(20,.load (i6 o.count))] [(20,i6 o.count)] [18] (lc 3 (Blk.below k3 b7) 5) ?_)))))
  by_cases c16:o.count>1099511627776
  ·refine xr1 1 [(21,.eq bT)] [(21,bT)] [20] (dT c16) ?_
   refine nl (ct (sg (xe0 1 [(2,i6 11)] ?_)))
   refine nl (X_ret (rj [i6 11] hR_ ?_))
   have hpe:pErr o=11:=by rw[pErr_small c8 c9 c12]; first|(rw[if_pos (by omega)]; done)|(rw[if_neg (by omega),if_pos (by omega)]; done)|(rw[if_neg (by omega),if_neg (by omega),if_pos (by omega)]; done)|(rw[if_neg (by omega),if_neg (by omega),if_neg (by omega)])
   rw[hpe]
   exact⟨rfl,(bt b2 b7)⟩
  refine xr1 1 [(21,.eq bF)] [(21,bF)] [20] (dF c16) ?_
  refine nl (cf (sk (sq (sg (xr1 2 [(23,.load (i6 o.kind))] [(23,i6 o.kind)] [21] (lc 3 (Blk.below k3 b7) 0) ?_)))))
  by_cases c17:o.kind=3
  ·refine xe1 1 [(24,.eq bT)] [(1,pw w.heap.size 0),(24,bT)] (bE c17) ?_
   refine nl (ct (sg (xe1 2 [(26,.load (aL A o.attrs c))] [(26,aL A o.attrs c)] (lc 49 (Blk.below k3 b7) 6) ?_)))
   refine xc 156 ent156 [.slice A o.attrs.length c,bT] (r3check_any _ _ o.attrs true _ (Kd.C_below hA (bt b2 b7)) hz.2.2.2 (hT.below (bt b2 b7))) ?_
   rintro e w18 ⟨rfl,b19⟩; refine⟨_,rfl,?_⟩
   refine xe0 1 [(2,i6 (chkA true o.attrs:Int))] ?_
   refine nl (X_ret (rj [i6 (chkA true o.attrs:Int)] hR_ ?_))
   have hk4:¬o.kind=4:=by omega
   have hpe:pErr o=chkA true o.attrs:=by rw[pErr_small c8 c9 c12]; first|(rw[if_pos (by omega)]; done)|(rw[if_neg (by omega),if_pos (by omega)]; done)|(rw[if_neg (by omega),if_neg (by omega),if_pos (by omega)]; done)|(rw[if_neg (by omega),if_neg (by omega),if_neg (by omega)])
   rw[hpe]
   exact⟨rfl,(bt (bt b2 b7) b19)⟩
  refine xe1 1 [(24,.eq bF)] [(1,pw w.heap.size 0),(24,bF)] (bN c17) ?_
  refine nl (cf (sk (sg (xe0 1 [(2,i6 0)] ?_))))
  refine nl (X_ret (rj [i6 0] hR_ ?_))
  have hk4:o.kind=4:=by have h_:=pErr_k3 c8; omega
  have hpe:pErr o=0:=by rw[pErr_small c8 c9 c12]; first|(rw[if_pos (by omega)]; done)|(rw[if_neg (by omega),if_pos (by omega)]; done)|(rw[if_neg (by omega),if_neg (by omega),if_pos (by omega)]; done)|(rw[if_neg (by omega),if_neg (by omega),if_neg (by omega)])
  rw[hpe]
  exact⟨rfl,(bt b2 b7)⟩
 rw[show (hasP o:Bool)=false from by simpa using c8]
 refine xr0 1 [(5,bT)] [3,4] ?_
 refine nl (ct (sg (xe0 1 [(2,i6 9)] ?_)))
 refine nl (X_ret (rj [i6 9] hR_ ?_))
 have hpe:pErr o=9:=pErr_has (Bool.eq_false_iff.2 c8)
 rw[hpe]
 exact⟨rfl,(bt b2 b7)⟩
end Go.Proofs.YtgphmfnkeolbcaaGreatDoor
