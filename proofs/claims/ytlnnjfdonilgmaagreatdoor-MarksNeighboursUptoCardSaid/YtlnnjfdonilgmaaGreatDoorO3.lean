import Derived.Test.YtlnnjfdonilgmaaGreatDoorUtf4
import Derived.Test.YtlnnjfdonilgmaaGreatDoorR1
/- What the references of layers content and ops answer: what the program answers. Conditions: sizes, the tables of utf8. -/
set_option linter.unusedVariables false
set_option linter.unusedSimpArgs false
set_option maxRecDepth 100000
namespace Go.Proofs.YtlnnjfdonilgmaaGreatDoor
open Go Go.RowKit Go.Proofs.YtlnnjfdonilgmaaGreatDoorW.PrintWords RX
theorem ent77 :Ent Tryz.prog 77:=ent_of Tryz.func77 (by kernel_rfl) rfl
theorem ent51 :Ent Tryz.prog 51:=ent_of Tryz.func51 (by kernel_rfl) rfl
theorem ent58 :Ent Tryz.prog 58:=ent_of Tryz.func58 (by kernel_rfl) rfl
theorem ent76 :Ent Tryz.prog 76:=ent_of Tryz.func76 (by kernel_rfl) rfl
theorem ent65 :Ent Tryz.prog 65:=ent_of Tryz.func65 (by kernel_rfl) rfl
theorem ent36 :Ent Tryz.prog 36:=ent_of Tryz.func36 (by kernel_rfl) rfl
theorem ent48 :Ent Tryz.prog 48:=ent_of Tryz.func48 (by kernel_rfl) rfl
theorem ent33 :Ent Tryz.prog 33:=ent_of Tryz.func33 (by kernel_rfl) rfl
theorem ent44 :Ent Tryz.prog 44:=ent_of Tryz.func44 (by kernel_rfl) rfl
theorem ent31 :Ent Tryz.prog 31:=ent_of Tryz.func31 (by kernel_rfl) rfl
theorem opSz.b {o:OpA}(h:opSz o):o.text.size≤100000000∧o.vt.size≤100000000:=by have h1:=h.1; have h2:=h.2.1; omega
set_option maxHeartbeats 2000000 in
theorem r4refuse_any (o:OpA)(A:Option Addr)(c:Nat)(w:World)(hA:kAttr.C w A o.attrs.length o.attrs)(hz:opSz o)(hT:Tabs w):Rt 77 #[.agg (o7A o (.slice A o.attrs.length c))] w (i6 (refuseP o:Int)):=by
 have hz1:=hz.b.1
 have hz2:=hz.b.2
 refine en Tryz.func77 rfl 65 [(0,.agg (o7A o (aL A o.attrs c)))] (fun R_ hR_=>?_)
 refine sg (xwe 1 [] [(1,pw w.heap.size 0)] (w.alloc (.cells (o7A o (aL A o.attrs c)) 70)) [] trivial ?_)
 obtain⟨w1,w5,b2,k3,z4⟩:=new_world w (o7A o (aL A o.attrs c)) 70
 rw[w5]
 refine xr0 1 [] [] ?_
 refine nl (sq (bk (sg (xr1 2 [(7,.load (i6 o.kind))] [(7,i6 o.kind)] [] (lc 3 k3 0) ?_))))
 by_cases c6:o.kind=1
 ·refine xr1 7 [(8,.eq bF)] [(5,bF)] [7] (nF c6) ?_
  refine nl (cf (sg (xr1 2 [(16,.load (i6 o.count))] [(16,i6 o.count)] [5] (lc 3 k3 5) ?_)))
  by_cases c7:o.count=0
  ·refine xr1 2 [(17,.eq bF)] [(14,bF)] [16] (nF c7) ?_
   refine nl (cf (sg (xe 6 [(20,.load (i6 o.kind)),(21,.eq bT),(24,.load (sT o.text))] [(1,pw w.heap.size 0),(22,bT),(24,sT o.text)] [_,_,_] ⟨lc 3 k3 0,bE c6,lc 9 k3 1,trivial⟩ ?_)))
   by_cases c8:o.text=(⟨#[]⟩:ByteArray)
   ·refine xr 9 [(25,.eq bT)] [(18,bT)] [22,24] [Value.bool (o.text.toList==(⟨#[]⟩:ByteArray).toList)=bT] ⟨congrArg Value.bool (strEqT (c8)),trivial⟩ ?_
    refine nl (ct (sg (xe0 1 [(2,i6 9)] ?_)))
    refine nl (X_ret (rj [i6 9] hR_ ?_))
    rw[show refuseP o=9 from by unfold refuseP; simp_all<;>omega]
    exact⟨rfl,b2⟩
   refine xr 5 [(25,.eq bF),(28,.load (.agg #[i6 o.vk,i6 o.vn,sT o.vt]))] [(26,bF),(28,.agg #[i6 o.vk,i6 o.vn,sT o.vt]),(29,.agg #[i6 0,i6 0,s0])] [24] [Value.bool (o.text.toList==(⟨#[]⟩:ByteArray).toList)=bF,la 67 (⟨w.heap.size,2,none⟩) (.agg #[i6 o.vk,i6 o.vn,sT o.vt]) w1] ⟨congrArg Value.bool (strEqF (c8)),loadsB rfl rfl k3 2 ⟨by kernel_rfl,by kernel_rfl⟩,trivial⟩ ?_
   by_cases c9:(o.vk,o.vn,o.vt)=pl0
   ·refine xr 4 [(30,.as bF)] [(18,bF)] [22,26,28,29] [RunsAs Tryz.prog [(28,.agg #[i6 o.vk,i6 o.vn,sT o.vt]),(29,.agg #[i6 0,i6 0,s0])] (Go.Op.binOp Go.BinOp.neq 67 (Go.Operand.tmp 28) (Go.Operand.tmp 29) 67) 4 bF w1] ⟨runs_bin rfl rfl (run_eqGuard_agg _ _ _ _ _ _ _ (by kernel_rfl)) (by have h:=plain_neq (o.vk,o.vn,o.vt) pl0 w1; rw[show ple (o.vk,o.vn,o.vt) pl0=true from(ple_iff _ _).2 c9]at h; exact h),trivial⟩ ?_
    refine nl (cf (sg (xr1 2 [(35,.load (i6 o.kind))] [(35,i6 o.kind)] [18] (lc 3 k3 0) ?_)))
    by_cases c10:o.kind=2
    ·refine xr 9 [(36,.eq bT),(39,.load (sT o.text)),(40,.eq bF),(43,.load (sT o.text))] [(37,bT),(41,bF),(44,i6 (o.text.size:Int))] [35] [_,_,Value.bool (o.text.toList==(⟨#[]⟩:ByteArray).toList)=bF,_] ⟨bE c10,lc 9 k3 1,congrArg Value.bool (strEqF (c8)),lc 9 k3 1,trivial⟩ ?_
     by_cases c11:(o.text.size:Int)>64
     ·refine xr1 4 [(45,.eq bT)] [(33,bT)] [37,41,44] (dT c11) ?_
      refine nl (ct (sg (xe0 1 [(2,i6 6)] ?_)))
      refine nl (X_ret (rj [i6 6] hR_ ?_))
      rw[show refuseP o=6 from by unfold refuseP; simp_all<;>omega]
      exact⟨rfl,b2⟩
     refine xr1 4 [(45,.eq bF)] [(33,bF)] [37,41,44] (dF c11) ?_
     refine nl (cf (sk (sg (xe1 2 [(49,.load (sT o.text))] [(1,pw w.heap.size 0),(49,sT o.text)] (lc 9 k3 1) ?_))))
     refine xc 41 ent41 [sT o.text] (utf8_any o.text _ (by omega)) ?_
     rintro e w12 ⟨rfl,b13⟩; refine⟨_,rfl,?_⟩
     refine xr0 1 [(3,.bool ((uchk o.text).2))] [49,50] ?_
     refine nl (sq (sg (xr0 1 [(51,.bool ((uchk o.text).2))] [3] ?_)))
     by_cases c14:(uchk o.text).2=true
     ·rw[show ((uchk o.text).2:Bool)=true from by simpa using c14]
      refine xr0 1 [(52,bF)] [51] ?_
      refine nl (cf (sk (sq (sg (xr 3 [(54,.load (i6 o.kind)),(55,.eq bT)] [(55,bT)] [52] [_,_] ⟨lc 3 (Blk.below k3 b13) 0,bE c10,trivial⟩ ?_)))))
      refine nl (ct (sg (xr 2 [(57,.load (.agg #[i6 o.vk,i6 o.vn,sT o.vt]))] [(57,.agg #[i6 o.vk,i6 o.vn,sT o.vt])] [55] [la 67 (⟨w.heap.size,2,none⟩) (.agg #[i6 o.vk,i6 o.vn,sT o.vt]) w12] ⟨loadsB rfl rfl (Blk.below k3 b13) 2 ⟨by kernel_rfl,by kernel_rfl⟩,trivial⟩ ?_)))
      refine xc 98 ent98 [.agg #[i6 o.vk,i6 o.vn,sT o.vt]] (r2check_any o.vk o.vn o.vt _ (by omega)) ?_
      rintro e w15 ⟨rfl,b16⟩; refine⟨_,rfl,?_⟩
      refine xe0 1 [(1,pw w.heap.size 0),(4,i6 (plainErr o.vk o.vn o.vt:Int))] ?_
      refine nl (sg (xr0 1 [(59,i6 (plainErr o.vk o.vn o.vt:Int))] [] ?_))
      by_cases c17:(plainErr o.vk o.vn o.vt:Int)=0
      ·refine xr1 1 [(60,.eq bF)] [(60,bF)] [59] (nF c17) ?_
       refine nl (cf (sk (sg (xe1 2 [(63,.load (aL A o.attrs c))] [(63,aL A o.attrs c)] (lc 68 (Blk.below k3 (bt b13 b16)) 6) ?_))))
       refine xc 78 ent78 [.slice A o.attrs.length c,bF] (r3check_any _ _ o.attrs false _ (Kd.C_below hA (bt (bt b2 b13) b16)) hz.2.2.2 (hT.below (bt (bt b2 b13) b16))) ?_
       rintro e w18 ⟨rfl,b19⟩; refine⟨_,rfl,?_⟩
       refine xe0 1 [(2,i6 (chkA false o.attrs:Int))] ?_
       refine nl (X_ret (rj [i6 (chkA false o.attrs:Int)] hR_ ?_))
       rw[show refuseP o=chkA false o.attrs from by unfold refuseP; simp_all<;>omega]
       exact⟨rfl,(bt (bt (bt b2 b13) b16) b19)⟩
      refine xr1 1 [(60,.eq bT)] [(60,bT)] [59] (nT c17) ?_
      refine nl (ct (sg (xe0 2 [(2,i6 (plainErr o.vk o.vn o.vt:Int))] ?_)))
      refine nl (X_ret (rj [i6 (plainErr o.vk o.vn o.vt:Int)] hR_ ?_))
      rw[show refuseP o=plainErr o.vk o.vn o.vt from by unfold refuseP; simp_all<;>omega]
      exact⟨rfl,(bt (bt b2 b13) b16)⟩
     rw[show ((uchk o.text).2:Bool)=false from by simpa using c14]
     refine xr0 1 [(52,bT)] [51] ?_
     refine nl (ct (sg (xe0 1 [(2,i6 1)] ?_)))
     refine nl (X_ret (rj [i6 1] hR_ ?_))
     rw[show refuseP o=1 from by unfold refuseP; simp_all<;>omega]
     exact⟨rfl,(bt b2 b13)⟩
    refine xr1 13 [(36,.eq bF)] [(33,bF)] [35] (bN c10) ?_
    refine nl (cf (sk (sg (xr1 2 [(49,.load (sT o.text))] [(49,sT o.text)] [33] (lc 9 k3 1) ?_))))
    refine xc 41 ent41 [sT o.text] (utf8_any o.text _ (by omega)) ?_
    rintro e w20 ⟨rfl,b21⟩; refine⟨_,rfl,?_⟩
    refine xe0 1 [(1,pw w.heap.size 0),(3,.bool ((uchk o.text).2))] ?_
    refine nl (sq (sg (xr0 1 [(51,.bool ((uchk o.text).2))] [3] ?_)))
    by_cases c22:(uchk o.text).2=true
    ·rw[show ((uchk o.text).2:Bool)=true from by simpa using c22]
     refine xr0 1 [(52,bF)] [51] ?_
     refine nl (cf (sk (sq (sg (xr 3 [(54,.load (i6 o.kind)),(55,.eq bF)] [(55,bF)] [52] [_,_] ⟨lc 3 (Blk.below k3 b21) 0,bN c10,trivial⟩ ?_)))))
     refine nl (cf (sk (sg (xe1 2 [(63,.load (aL A o.attrs c))] [(63,aL A o.attrs c)] (lc 68 (Blk.below k3 b21) 6) ?_))))
     refine xc 78 ent78 [.slice A o.attrs.length c,bF] (r3check_any _ _ o.attrs false _ (Kd.C_below hA (bt b2 b21)) hz.2.2.2 (hT.below (bt b2 b21))) ?_
     rintro e w23 ⟨rfl,b24⟩; refine⟨_,rfl,?_⟩
     refine xe0 1 [(2,i6 (chkA false o.attrs:Int))] ?_
     refine nl (X_ret (rj [i6 (chkA false o.attrs:Int)] hR_ ?_))
     rw[show refuseP o=chkA false o.attrs from by unfold refuseP; simp_all<;>omega]
     exact⟨rfl,(bt (bt b2 b21) b24)⟩
    rw[show ((uchk o.text).2:Bool)=false from by simpa using c22]
    refine xr0 1 [(52,bT)] [51] ?_
    refine nl (ct (sg (xe0 1 [(2,i6 1)] ?_)))
    refine nl (X_ret (rj [i6 1] hR_ ?_))
    rw[show refuseP o=1 from by unfold refuseP; simp_all<;>omega]
    exact⟨rfl,(bt b2 b21)⟩
   refine xr 4 [(30,.as bT)] [(18,bT)] [22,26,28,29] [RunsAs Tryz.prog [(28,.agg #[i6 o.vk,i6 o.vn,sT o.vt]),(29,.agg #[i6 0,i6 0,s0])] (Go.Op.binOp Go.BinOp.neq 67 (Go.Operand.tmp 28) (Go.Operand.tmp 29) 67) 4 bT w1] ⟨runs_bin rfl rfl (run_eqGuard_agg _ _ _ _ _ _ _ (by kernel_rfl)) (by have h:=plain_neq (o.vk,o.vn,o.vt) pl0 w1; rw[show ple (o.vk,o.vn,o.vt) pl0=false from Bool.eq_false_iff.2 (fun k=>c9 ((ple_iff _ _).1 k))]at h; exact h),trivial⟩ ?_
   refine nl (ct (sg (xe0 1 [(2,i6 9)] ?_)))
   refine nl (X_ret (rj [i6 9] hR_ ?_))
   rw[show refuseP o=9 from by unfold refuseP; simp_all<;>omega]
   exact⟨rfl,b2⟩
  refine xr1 2 [(17,.eq bT)] [(14,bT)] [16] (nT c7) ?_
  refine nl (ct (sg (xe0 1 [(2,i6 9)] ?_)))
  refine nl (X_ret (rj [i6 9] hR_ ?_))
  rw[show refuseP o=9 from by unfold refuseP; simp_all<;>omega]
  exact⟨rfl,b2⟩
 refine xr 4 [(8,.eq bT),(11,.load (i6 o.kind))] [(9,bT),(11,i6 o.kind)] [7] [_,_] ⟨nT c6,lc 3 k3 0,trivial⟩ ?_
 by_cases c25:o.kind=2
 ·refine xr1 3 [(12,.eq bF)] [(5,bF)] [9,11] (nF c25) ?_
  refine nl (cf (sg (xr1 2 [(16,.load (i6 o.count))] [(16,i6 o.count)] [5] (lc 3 k3 5) ?_)))
  by_cases c26:o.count=0
  ·refine xe1 2 [(17,.eq bF)] [(1,pw w.heap.size 0),(14,bF)] (nF c26) ?_
   refine nl (cf (sg (xr 15 [(20,.load (i6 o.kind)),(21,.eq bF)] [(18,bF)] [14] [_,_] ⟨lc 3 k3 0,bN c6,trivial⟩ ?_)))
   refine nl (cf (sg (xr 6 [(35,.load (i6 o.kind)),(36,.eq bT),(39,.load (sT o.text))] [(37,bT),(39,sT o.text)] [18] [_,_,_] ⟨lc 3 k3 0,bE c25,lc 9 k3 1,trivial⟩ ?_)))
   by_cases c27:o.text=(⟨#[]⟩:ByteArray)
   ·refine xr 9 [(40,.eq bT)] [(33,bT)] [37,39] [Value.bool (o.text.toList==(⟨#[]⟩:ByteArray).toList)=bT] ⟨congrArg Value.bool (strEqT (c27)),trivial⟩ ?_
    refine nl (ct (sg (xe0 1 [(2,i6 6)] ?_)))
    refine nl (X_ret (rj [i6 6] hR_ ?_))
    rw[show refuseP o=6 from by unfold refuseP; simp_all<;>omega]
    exact⟨rfl,b2⟩
   refine xr 5 [(40,.eq bF),(43,.load (sT o.text))] [(41,bF),(44,i6 (o.text.size:Int))] [39] [Value.bool (o.text.toList==(⟨#[]⟩:ByteArray).toList)=bF,_] ⟨congrArg Value.bool (strEqF (c27)),lc 9 k3 1,trivial⟩ ?_
   by_cases c28:(o.text.size:Int)>64
   ·refine xr1 4 [(45,.eq bT)] [(33,bT)] [37,41,44] (dT c28) ?_
    refine nl (ct (sg (xe0 1 [(2,i6 6)] ?_)))
    refine nl (X_ret (rj [i6 6] hR_ ?_))
    rw[show refuseP o=6 from by unfold refuseP; simp_all<;>omega]
    exact⟨rfl,b2⟩
   refine xr1 4 [(45,.eq bF)] [(33,bF)] [37,41,44] (dF c28) ?_
   refine nl (cf (sk (sg (xr1 2 [(49,.load (sT o.text))] [(49,sT o.text)] [33] (lc 9 k3 1) ?_))))
   refine xc 41 ent41 [sT o.text] (utf8_any o.text _ (by omega)) ?_
   rintro e w29 ⟨rfl,b30⟩; refine⟨_,rfl,?_⟩
   refine xe0 1 [(1,pw w.heap.size 0),(3,.bool ((uchk o.text).2))] ?_
   refine nl (sq (sg (xr0 1 [(51,.bool ((uchk o.text).2))] [3] ?_)))
   by_cases c31:(uchk o.text).2=true
   ·rw[show ((uchk o.text).2:Bool)=true from by simpa using c31]
    refine xr0 1 [(52,bF)] [51] ?_
    refine nl (cf (sk (sq (sg (xr 3 [(54,.load (i6 o.kind)),(55,.eq bT)] [(55,bT)] [52] [_,_] ⟨lc 3 (Blk.below k3 b30) 0,bE c25,trivial⟩ ?_)))))
    refine nl (ct (sg (xr 2 [(57,.load (.agg #[i6 o.vk,i6 o.vn,sT o.vt]))] [(57,.agg #[i6 o.vk,i6 o.vn,sT o.vt])] [55] [la 67 (⟨w.heap.size,2,none⟩) (.agg #[i6 o.vk,i6 o.vn,sT o.vt]) w29] ⟨loadsB rfl rfl (Blk.below k3 b30) 2 ⟨by kernel_rfl,by kernel_rfl⟩,trivial⟩ ?_)))
    refine xc 98 ent98 [.agg #[i6 o.vk,i6 o.vn,sT o.vt]] (r2check_any o.vk o.vn o.vt _ (by omega)) ?_
    rintro e w32 ⟨rfl,b33⟩; refine⟨_,rfl,?_⟩
    refine xr0 1 [(4,i6 (plainErr o.vk o.vn o.vt:Int))] [57,58] ?_
    refine nl (sg (xe0 1 [(1,pw w.heap.size 0),(4,i6 (plainErr o.vk o.vn o.vt:Int)),(59,i6 (plainErr o.vk o.vn o.vt:Int))] ?_))
    by_cases c34:(plainErr o.vk o.vn o.vt:Int)=0
    ·refine xr1 1 [(60,.eq bF)] [(60,bF)] [59] (nF c34) ?_
     refine nl (cf (sk (sg (xe1 2 [(63,.load (aL A o.attrs c))] [(63,aL A o.attrs c)] (lc 68 (Blk.below k3 (bt b30 b33)) 6) ?_))))
     refine xc 78 ent78 [.slice A o.attrs.length c,bF] (r3check_any _ _ o.attrs false _ (Kd.C_below hA (bt (bt b2 b30) b33)) hz.2.2.2 (hT.below (bt (bt b2 b30) b33))) ?_
     rintro e w35 ⟨rfl,b36⟩; refine⟨_,rfl,?_⟩
     refine xe0 1 [(2,i6 (chkA false o.attrs:Int))] ?_
     refine nl (X_ret (rj [i6 (chkA false o.attrs:Int)] hR_ ?_))
     rw[show refuseP o=chkA false o.attrs from by unfold refuseP; simp_all<;>omega]
     exact⟨rfl,(bt (bt (bt b2 b30) b33) b36)⟩
    refine xr1 1 [(60,.eq bT)] [(60,bT)] [59] (nT c34) ?_
    refine nl (ct (sg (xe0 2 [(2,i6 (plainErr o.vk o.vn o.vt:Int))] ?_)))
    refine nl (X_ret (rj [i6 (plainErr o.vk o.vn o.vt:Int)] hR_ ?_))
    rw[show refuseP o=plainErr o.vk o.vn o.vt from by unfold refuseP; simp_all<;>omega]
    exact⟨rfl,(bt (bt b2 b30) b33)⟩
   rw[show ((uchk o.text).2:Bool)=false from by simpa using c31]
   refine xr0 1 [(52,bT)] [51] ?_
   refine nl (ct (sg (xe0 1 [(2,i6 1)] ?_)))
   refine nl (X_ret (rj [i6 1] hR_ ?_))
   rw[show refuseP o=1 from by unfold refuseP; simp_all<;>omega]
   exact⟨rfl,(bt b2 b30)⟩
  refine xe1 2 [(17,.eq bT)] [(1,pw w.heap.size 0),(14,bT)] (nT c26) ?_
  refine nl (ct (sg (xe0 1 [(2,i6 9)] ?_)))
  refine nl (X_ret (rj [i6 9] hR_ ?_))
  rw[show refuseP o=9 from by unfold refuseP; simp_all<;>omega]
  exact⟨rfl,b2⟩
 refine xr1 3 [(12,.eq bT)] [(5,bT)] [9,11] (nT c25) ?_
 refine nl (ct (sg (xe0 1 [(2,i6 5)] ?_)))
 refine nl (X_ret (rj [i6 5] hR_ ?_))
 rw[show refuseP o=5 from by unfold refuseP; simp_all<;>omega]
 exact⟨rfl,b2⟩
noncomputable def len4 (o:OpA):Int:=if o.kind=2 then 1 else ((U.sc o.text).length:Int)
theorem len4_op {o:OpA}(h:o.kind=1∨o.kind=2):len4 o=opLen o:=by
 unfold len4 opLen
 by_cases h2:o.kind=2
 ·rw[if_pos h2,if_neg (by omega),if_pos h2]
 rw[if_neg h2,if_pos (by omega)]
theorem r4len_any (o:OpA)(A:Option Addr)(c:Nat)(w:World)(hA:kAttr.C w A o.attrs.length o.attrs)(hz:opSz o):Rt 51 #[.agg (o7A o (.slice A o.attrs.length c))] w (i6 (len4 o)):=by
 have hz1:=hz.b.1
 refine en Tryz.func51 rfl 10 [(0,.agg (o7A o (aL A o.attrs c)))] (fun R_ hR_=>?_)
 refine sg (xwe 1 [] [(1,pw w.heap.size 0)] (w.alloc (.cells (o7A o (aL A o.attrs c)) 70)) [] trivial ?_)
 obtain⟨w1,w5,b2,k3,z4⟩:=new_world w (o7A o (aL A o.attrs c)) 70
 rw[w5]
 refine xr0 1 [] [] ?_
 refine nl (sq (sg (xr1 2 [(4,.load (i6 o.kind))] [(4,i6 o.kind)] [] (lc 3 k3 0) ?_)))
 by_cases c6:o.kind=2
 ·refine xr1 1 [(5,.eq bT)] [(5,bT)] [4] (bE c6) ?_
  refine nl (ct (sg (xe0 1 [(2,i6 1)] ?_)))
  refine nl (X_ret (rj [i6 1] hR_ ?_))
  rw[show len4 o=1 from by unfold len4; simp_all]
  exact⟨rfl,b2⟩
 refine xr1 1 [(5,.eq bF)] [(5,bF)] [4] (bN c6) ?_
 refine nl (cf (sk (sg (xe1 2 [(7,.load (sT o.text))] [(7,sT o.text)] (lc 9 k3 1) ?_))))
 refine xc 69 ent69 [sT o.text] (rlist_any o.text _ (by omega)) ?_
 rintro e w11 ⟨A7,c8,rfl,l9,r10,b12⟩; refine⟨_,rfl,?_⟩
 refine xe0 2 [(2,i6 ((U.scz o.text).length:Int))] ?_
 refine nl (X_ret (rj [i6 ((U.scz o.text).length:Int)] hR_ ?_))
 rw[show len4 o=((U.scz o.text).length:Int)from by unfold len4; rw[if_neg c6,show U.scz o.text=(U.sc o.text).map (fun(r_:Nat)=>(r_:Int))from rfl,List.length_map]]
 exact⟨rfl,(bt b2 b12)⟩
theorem sattrs_any (A A':Option Addr)(c c':Nat)(xs ys:List At)(w:World)(hx:kAttr.C w A xs.length xs)(hy:kAttr.C w A' ys.length ys):
  Rt 58 #[.slice A xs.length c,aL A' ys c'] w (.bool (decide (xs=ys))):=by
 have hpl:xs.length≤9223372036854775807:=hx.2.1
 refine en Tryz.func58 rfl 26 [(0,aL A xs c),(1,aL A' ys c')] (fun R_ hR_=>?_)
 refine sg (xe0 1 [(0,aL A xs c),(1,aL A' ys c')] ?_)
 refine nl (sq (sg (xr0 4 [(7,i6 (xs.length:Int)),(9,i6 (ys.length:Int))] [] ?_)))
 by_cases c1:(xs.length:Int)=(ys.length:Int)
 ·refine xr1 1 [(10,.eq bF)] [(10,bF)] [7,9] (nF c1) ?_
  refine nl (cf (sk (sq (sg (xr0 3 [(12,i6 (xs.length:Int)),(13,i6 0)] [10] ?_)))))
  refine nl (bk (X_loop (ι:=Nat) (fun i=>[(0,aL A xs c),(1,aL A' ys c'),(12,i6 (xs.length:Int)),(13,i6 (i:Int))]) (fun i wl=>i≤xs.length∧xs.length=ys.length∧(∀ q,q<i→xs.getD q at0=ys.getD q at0)∧Below w.heap.size w wl) (fun i=>xs.length-i) 0 ⟨by omega,by omega,fun q hq=>by omega,(Below.refl _ _)⟩ (by kernel_rfl) ?_))
  rintro i wl ⟨hi,hlen,hq0,HB⟩
  refine sq (X_region ?_)
  by_cases c2:(i:Int)<(xs.length:Int)
  ·refine xr1 1 [(14,.eq bT)] [(14,bT)] [] (dT c2) ?_
   refine nl (sq (ct (sk (sq (bk (sg (xr0 2 [(5,nv i)] [14] ?_)))))))
   refine nl (sq (X_still (by kernel_rfl) (by kernel_rfl) (fun wd3 b4 h5=>?_)))
   refine xsC 2 [] [(16,aL A xs c),(17,nv i)] [] [] trivial ?_
   obtain⟨ad6,a7,hc8⟩:=Kd.atAttr (Kd.C_below hx (bt HB b4)) (i:=(i:Int)) (by omega) (by omega)
   replace hc8:CellsAt wd3 (ad6.add ((i:Int).toNat*4)) [sT ((xs.getD i at0).1),i6 ((xs.getD i at0).2.1),i6 ((xs.getD i at0).2.2.1),sT ((xs.getD i at0).2.2.2)]:=hc8
   refine xsC 4 [(18,.idx ad6),(19,.load (.agg (a4 (xs.getD i at0))))] [(19,.agg (a4 (xs.getD i at0))),(20,aL A' ys c'),(21,nv i)] [5,16,17] [A=some ad6,(0:Int)≤(i:Int),(i:Int)<(xs.length:Int),la 148 (ad6.add ((i:Int).toNat*4)) (.agg (a4 (xs.getD i at0))) wd3] ⟨a7,(by omega),(by omega),loadsE rfl rfl hc8 0 ⟨by kernel_rfl,by kernel_rfl⟩,trivial⟩ ?_
   obtain⟨ad9,a10,hc11⟩:=Kd.atAttr (Kd.C_below hy (bt HB b4)) (i:=(i:Int)) (by omega) (by omega)
   replace hc11:CellsAt wd3 (ad9.add ((i:Int).toNat*4)) [sT ((ys.getD i at0).1),i6 ((ys.getD i at0).2.1),i6 ((ys.getD i at0).2.2.1),sT ((ys.getD i at0).2.2.2)]:=hc11
   refine xsC 2 [(22,.idx ad9),(23,.load (.agg (a4 (ys.getD i at0))))] [(23,.agg (a4 (ys.getD i at0)))] [20,21] [A'=some ad9,(0:Int)≤(i:Int),(i:Int)<(ys.length:Int),la 148 (ad9.add ((i:Int).toNat*4)) (.agg (a4 (ys.getD i at0))) wd3] ⟨a10,(by omega),(by omega),loadsE rfl rfl hc11 0 ⟨by kernel_rfl,by kernel_rfl⟩,trivial⟩ ?_
   by_cases c12:(xs.getD i at0)=(ys.getD i at0)
   ·refine xse 1 [(24,.as bF)] [(0,aL A xs c),(1,aL A' ys c'),(12,i6 (xs.length:Int)),(13,i6 (i:Int)),(24,bF)] [RunsAs Tryz.prog [(19,.agg (a4 (xs.getD i at0))),(23,.agg (a4 (ys.getD i at0)))] (Go.Op.binOp Go.BinOp.neq 148 (Go.Operand.tmp 19) (Go.Operand.tmp 23) 148) 4 bF wd3] ⟨runs_bin rfl rfl (run_eqGuard_agg _ _ _ _ _ _ _ (by kernel_rfl)) (by have h:=attr_neq (xs.getD i at0) (ys.getD i at0) wd3; rw[show atEq (xs.getD i at0) (ys.getD i at0)=true from(atEq_iff _ _).2 c12]at h; exact h),trivial⟩ ?_
    refine XS_nil ?_
    refine cf (sk (rg (xr1 2 [(25,.eq (i6 ((i:Int)+1)))] [(13,i6 ((i:Int)+1))] [24] (w6 ((i:Int)+1)) ?_)))
    refine nl ?_
    refine⟨(i+1),by kernel_rfl,?_,?_⟩
    ·exact⟨by omega,by omega,fun q hq=>by by_cases e:q=i; (· subst e; exact c12); (· exact hq0 q (by omega)),(bt HB b4)⟩
    (try dsimp only); omega
   refine xse 1 [(24,.as bT)] [(0,aL A xs c),(1,aL A' ys c'),(12,i6 (xs.length:Int)),(13,i6 (i:Int)),(24,bT)] [RunsAs Tryz.prog [(19,.agg (a4 (xs.getD i at0))),(23,.agg (a4 (ys.getD i at0)))] (Go.Op.binOp Go.BinOp.neq 148 (Go.Operand.tmp 19) (Go.Operand.tmp 23) 148) 4 bT wd3] ⟨runs_bin rfl rfl (run_eqGuard_agg _ _ _ _ _ _ _ (by kernel_rfl)) (by have h:=attr_neq (xs.getD i at0) (ys.getD i at0) wd3; rw[show atEq (xs.getD i at0) (ys.getD i at0)=false from Bool.eq_false_iff.2 (fun k=>c12 ((atEq_iff _ _).1 k))]at h; exact h),trivial⟩ ?_
   refine XS_nil ?_
   refine ct (sg (xe0 1 [(4,bF)] ?_))
   refine nl (X_ret (rj [bF] hR_ ?_))
   rw[decide_eq_false (fun e=>c12 (by rw[e]))]
   exact⟨rfl,(bt HB b4)⟩
  refine xr1 1 [(14,.eq bF)] [(14,bF)] [] (dF c2) ?_
  refine nl (sq (cf (X_exit (sg (xe0 1 [(4,bT)] ?_)))))
  refine nl (X_ret (rj [bT] hR_ ?_))
  rw[decide_eq_true (show xs=ys from List.ext_getElem hlen fun q h1 h2=>by have:=hq0 q (by omega); simpa [List.getD_eq_getElem?_getD,List.getElem?_eq_getElem h1,List.getElem?_eq_getElem h2] using this)]
  exact⟨rfl,HB⟩
 refine xr1 1 [(10,.eq bT)] [(10,bT)] [7,9] (nT c1) ?_
 refine nl (ct (sg (xe0 1 [(4,bF)] ?_)))
 refine nl (X_ret (rj [bF] hR_ ?_))
 rw[decide_eq_false (show ¬xs=ys from fun e=>by subst e; omega)]
 exact⟨rfl,(Below.refl _ _)⟩
set_option maxHeartbeats 2000000 in
theorem r5empty_any (o:OpA)(A:Option Addr)(c:Nat)(w:World)(hA:kAttr.C w A o.attrs.length o.attrs)(hz:opSz o):Rt 76 #[.agg (o7A o (.slice A o.attrs.length c))] w (.bool (hasP o)):=by
 refine en Tryz.func76 rfl 49 [(0,.agg (o7A o (aL A o.attrs c)))] (fun R_ hR_=>?_)
 refine sg (xwe 1 [] [(1,pw w.heap.size 0)] (w.alloc (.cells (o7A o (aL A o.attrs c)) 70)) [] trivial ?_)
 obtain⟨w1,w5,b2,k3,z4⟩:=new_world w (o7A o (aL A o.attrs c)) 70
 rw[w5]
 refine xr0 1 [] [] ?_
 refine nl (sq (sg (xr1 2 [(4,.load (i6 o.kind))] [(4,i6 o.kind)] [] (lc 3 k3 0) ?_)))
 refine nl (bk (sq (X_region ?_)))
 by_cases c6:o.kind=1
 ·refine xr1 2 [(6,.eq bT)] [(5,bT)] [] (bE c6) ?_
  refine nl (ct (sg (xr1 2 [(8,.load (i6 o.count))] [(8,i6 o.count)] [4,5] (lc 3 k3 5) ?_)))
  by_cases c7:o.count=0
  ·refine xe 5 [(9,.eq bT),(12,.load (.agg #[i6 o.vk,i6 o.vn,sT o.vt]))] [(10,bT),(12,.agg #[i6 o.vk,i6 o.vn,sT o.vt]),(13,.agg #[i6 0,i6 0,s0])] [_,la 67 (⟨w.heap.size,2,none⟩) (.agg #[i6 o.vk,i6 o.vn,sT o.vt]) w1] ⟨bE c7,loadsB rfl rfl k3 2 ⟨by kernel_rfl,by kernel_rfl⟩,trivial⟩ ?_
   by_cases c8:(o.vk,o.vn,o.vt)=pl0
   ·refine xe 3 [(14,.as bT)] [(2,bT)] [RunsAs Tryz.prog [(12,.agg #[i6 o.vk,i6 o.vn,sT o.vt]),(13,.agg #[i6 0,i6 0,s0])] (Go.Op.binOp Go.BinOp.eql 67 (Go.Operand.tmp 12) (Go.Operand.tmp 13) 67) 4 bT w1] ⟨runs_bin rfl rfl (run_eqGuard_agg _ _ _ _ _ _ _ (by kernel_rfl)) (by have h:=plain_eqb (o.vk,o.vn,o.vt) pl0 w1; rw[show ple (o.vk,o.vn,o.vt) pl0=true from(ple_iff _ _).2 c8]at h; exact h),trivial⟩ ?_
    refine nl (X_ret (rj [bT] hR_ ?_))
    rw[show hasP o=true from by unfold hasP; simp_all]
    exact⟨rfl,b2⟩
   refine xe 3 [(14,.as bF)] [(2,bF)] [RunsAs Tryz.prog [(12,.agg #[i6 o.vk,i6 o.vn,sT o.vt]),(13,.agg #[i6 0,i6 0,s0])] (Go.Op.binOp Go.BinOp.eql 67 (Go.Operand.tmp 12) (Go.Operand.tmp 13) 67) 4 bF w1] ⟨runs_bin rfl rfl (run_eqGuard_agg _ _ _ _ _ _ _ (by kernel_rfl)) (by have h:=plain_eqb (o.vk,o.vn,o.vt) pl0 w1; rw[show ple (o.vk,o.vn,o.vt) pl0=false from Bool.eq_false_iff.2 (fun k=>c8 ((ple_iff _ _).1 k))]at h; exact h),trivial⟩ ?_
   refine nl (X_ret (rj [bF] hR_ ?_))
   rw[show hasP o=false from by unfold hasP; simp_all]
   exact⟨rfl,b2⟩
  refine xe1 8 [(9,.eq bF)] [(2,bF)] (bN c7) ?_
  refine nl (X_ret (rj [bF] hR_ ?_))
  rw[show hasP o=false from by unfold hasP; simp_all]
  exact⟨rfl,b2⟩
 refine xr1 2 [(6,.eq bF)] [(5,bF)] [] (bN c6) ?_
 refine nl (cf (sq (X_region ?_)))
 by_cases c9:o.kind=2
 ·refine xr1 2 [(17,.eq bT)] [(16,bT)] [5] (bE c9) ?_
  refine nl (ct (sg (xe1 2 [(19,.load (i6 o.count))] [(19,i6 o.count)] (lc 3 k3 5) ?_)))
  by_cases c10:o.count=0
  ·refine xe1 2 [(20,.eq bT)] [(2,bT)] (bE c10) ?_
   refine nl (X_ret (rj [bT] hR_ ?_))
   rw[show hasP o=true from by unfold hasP; simp_all]
   exact⟨rfl,b2⟩
  refine xe1 2 [(20,.eq bF)] [(2,bF)] (bN c10) ?_
  refine nl (X_ret (rj [bF] hR_ ?_))
  rw[show hasP o=false from by unfold hasP; simp_all]
  exact⟨rfl,b2⟩
 refine xr1 2 [(17,.eq bF)] [(16,bF)] [5] (bN c9) ?_
 refine nl (cf (sq (X_region ?_)))
 by_cases c11:o.kind=3
 ·refine xr1 2 [(22,.eq bT)] [(21,bT)] [16] (bE c11) ?_
  refine nl (ct (sg (xe1 2 [(24,.load (sT o.text))] [(1,pw w.heap.size 0),(24,sT o.text)] (lc 9 k3 1) ?_)))
  by_cases c12:o.text=(⟨#[]⟩:ByteArray)
  ·refine xe 5 [(25,.eq bT),(28,.load (.agg #[i6 o.vk,i6 o.vn,sT o.vt]))] [(26,bT),(28,.agg #[i6 o.vk,i6 o.vn,sT o.vt]),(29,.agg #[i6 0,i6 0,s0])] [Value.bool (o.text.toList==(⟨#[]⟩:ByteArray).toList)=bT,la 67 (⟨w.heap.size,2,none⟩) (.agg #[i6 o.vk,i6 o.vn,sT o.vt]) w1] ⟨congrArg Value.bool (strEqT (c12)),loadsB rfl rfl k3 2 ⟨by kernel_rfl,by kernel_rfl⟩,trivial⟩ ?_
   by_cases c13:(o.vk,o.vn,o.vt)=pl0
   ·refine xe 3 [(30,.as bT)] [(2,bT)] [RunsAs Tryz.prog [(28,.agg #[i6 o.vk,i6 o.vn,sT o.vt]),(29,.agg #[i6 0,i6 0,s0])] (Go.Op.binOp Go.BinOp.eql 67 (Go.Operand.tmp 28) (Go.Operand.tmp 29) 67) 4 bT w1] ⟨runs_bin rfl rfl (run_eqGuard_agg _ _ _ _ _ _ _ (by kernel_rfl)) (by have h:=plain_eqb (o.vk,o.vn,o.vt) pl0 w1; rw[show ple (o.vk,o.vn,o.vt) pl0=true from(ple_iff _ _).2 c13]at h; exact h),trivial⟩ ?_
    refine nl (X_ret (rj [bT] hR_ ?_))
    rw[show hasP o=true from by unfold hasP; simp_all]
    exact⟨rfl,b2⟩
   refine xe 3 [(30,.as bF)] [(2,bF)] [RunsAs Tryz.prog [(28,.agg #[i6 o.vk,i6 o.vn,sT o.vt]),(29,.agg #[i6 0,i6 0,s0])] (Go.Op.binOp Go.BinOp.eql 67 (Go.Operand.tmp 28) (Go.Operand.tmp 29) 67) 4 bF w1] ⟨runs_bin rfl rfl (run_eqGuard_agg _ _ _ _ _ _ _ (by kernel_rfl)) (by have h:=plain_eqb (o.vk,o.vn,o.vt) pl0 w1; rw[show ple (o.vk,o.vn,o.vt) pl0=false from Bool.eq_false_iff.2 (fun k=>c13 ((ple_iff _ _).1 k))]at h; exact h),trivial⟩ ?_
   refine nl (X_ret (rj [bF] hR_ ?_))
   rw[show hasP o=false from by unfold hasP; simp_all]
   exact⟨rfl,b2⟩
  refine xe 8 [(25,.eq bF)] [(2,bF)] [Value.bool (o.text.toList==(⟨#[]⟩:ByteArray).toList)=bF] ⟨congrArg Value.bool (strEqF (c12)),trivial⟩ ?_
  refine nl (X_ret (rj [bF] hR_ ?_))
  rw[show hasP o=false from by unfold hasP; simp_all]
  exact⟨rfl,b2⟩
 refine xr1 2 [(22,.eq bF)] [(21,bF)] [16] (bN c11) ?_
 refine nl (cf (sq (X_region ?_)))
 by_cases c14:o.kind=4
 ·refine xe1 2 [(33,.eq bT)] [(1,pw w.heap.size 0),(32,bT)] (bE c14) ?_
  refine nl (ct (sg (xr1 2 [(35,.load (sT o.text))] [(35,sT o.text)] [32] (lc 9 k3 1) ?_)))
  by_cases c15:o.text=(⟨#[]⟩:ByteArray)
  ·refine xr 5 [(36,.eq bT),(39,.load (.agg #[i6 o.vk,i6 o.vn,sT o.vt]))] [(37,bT),(39,.agg #[i6 o.vk,i6 o.vn,sT o.vt]),(40,.agg #[i6 0,i6 0,s0])] [35] [Value.bool (o.text.toList==(⟨#[]⟩:ByteArray).toList)=bT,la 67 (⟨w.heap.size,2,none⟩) (.agg #[i6 o.vk,i6 o.vn,sT o.vt]) w1] ⟨congrArg Value.bool (strEqT (c15)),loadsB rfl rfl k3 2 ⟨by kernel_rfl,by kernel_rfl⟩,trivial⟩ ?_
   by_cases c16:(o.vk,o.vn,o.vt)=pl0
   ·refine xe 6 [(41,.as bT),(45,.load (aL A o.attrs c))] [(43,bT),(46,i6 (o.attrs.length:Int))] [RunsAs Tryz.prog [(39,.agg #[i6 o.vk,i6 o.vn,sT o.vt]),(40,.agg #[i6 0,i6 0,s0])] (Go.Op.binOp Go.BinOp.eql 67 (Go.Operand.tmp 39) (Go.Operand.tmp 40) 67) 4 bT w1,_] ⟨runs_bin rfl rfl (run_eqGuard_agg _ _ _ _ _ _ _ (by kernel_rfl)) (by have h:=plain_eqb (o.vk,o.vn,o.vt) pl0 w1; rw[show ple (o.vk,o.vn,o.vt) pl0=true from(ple_iff _ _).2 c16]at h; exact h),lc 68 k3 6,trivial⟩ ?_
    by_cases c17:(o.attrs.length:Int)=0
    ·refine xe1 3 [(47,.eq bT)] [(2,bT)] (bE c17) ?_
     refine nl (X_ret (rj [bT] hR_ ?_))
     rw[show hasP o=true from by unfold hasP; simp_all]
     exact⟨rfl,b2⟩
    refine xe1 3 [(47,.eq bF)] [(2,bF)] (bN c17) ?_
    refine nl (X_ret (rj [bF] hR_ ?_))
    rw[show hasP o=false from by unfold hasP; simp_all]
    exact⟨rfl,b2⟩
   refine xe 9 [(41,.as bF)] [(2,bF)] [RunsAs Tryz.prog [(39,.agg #[i6 o.vk,i6 o.vn,sT o.vt]),(40,.agg #[i6 0,i6 0,s0])] (Go.Op.binOp Go.BinOp.eql 67 (Go.Operand.tmp 39) (Go.Operand.tmp 40) 67) 4 bF w1] ⟨runs_bin rfl rfl (run_eqGuard_agg _ _ _ _ _ _ _ (by kernel_rfl)) (by have h:=plain_eqb (o.vk,o.vn,o.vt) pl0 w1; rw[show ple (o.vk,o.vn,o.vt) pl0=false from Bool.eq_false_iff.2 (fun k=>c16 ((ple_iff _ _).1 k))]at h; exact h),trivial⟩ ?_
   refine nl (X_ret (rj [bF] hR_ ?_))
   rw[show hasP o=false from by unfold hasP; simp_all]
   exact⟨rfl,b2⟩
  refine xe 14 [(36,.eq bF)] [(2,bF)] [Value.bool (o.text.toList==(⟨#[]⟩:ByteArray).toList)=bF] ⟨congrArg Value.bool (strEqF (c15)),trivial⟩ ?_
  refine nl (X_ret (rj [bF] hR_ ?_))
  rw[show hasP o=false from by unfold hasP; simp_all]
  exact⟨rfl,b2⟩
 refine xe1 2 [(33,.eq bF)] [(1,pw w.heap.size 0),(32,bF)] (bN c14) ?_
 refine nl (cf (sk (sg (xe0 1 [(2,bF)] ?_))))
 refine nl (X_ret (rj [bF] hR_ ?_))
 rw[show hasP o=false from by unfold hasP; simp_all]
 exact⟨rfl,b2⟩
theorem r5check_any (o:OpA)(A:Option Addr)(c:Nat)(w:World)(hA:kAttr.C w A o.attrs.length o.attrs)(hz:opSz o)(hT:Tabs w):Rt 65 #[.agg (o7A o (.slice A o.attrs.length c))] w (i6 (pErr o:Int)):=by
 refine en Tryz.func65 rfl 28 [(0,.agg (o7A o (aL A o.attrs c)))] (fun R_ hR_=>?_)
 refine sg (xwe 1 [] [(1,pw w.heap.size 0)] (w.alloc (.cells (o7A o (aL A o.attrs c)) 70)) [] trivial ?_)
 obtain⟨w1,w5,b2,k3,z4⟩:=new_world w (o7A o (aL A o.attrs c)) 70
 rw[w5]
 refine xr0 1 [] [] ?_
 refine nl (sq (sg (xr 1 [(3,.load (.agg (o7A o (aL A o.attrs c))))] [(3,.agg (o7A o (aL A o.attrs c)))] [] [la 70 (⟨w.heap.size,0,none⟩) (.agg (o7A o (aL A o.attrs c))) w1] ⟨loadsB rfl rfl k3 0 ⟨by kernel_rfl,by kernel_rfl⟩,trivial⟩ ?_)))
 refine xc 76 ent76 [.agg (o7A o (aL A o.attrs c))] (r5empty_any o _ _ _ (Kd.C_below hA b2) hz) ?_
 rintro e w_6 ⟨rfl,b7⟩; refine⟨_,rfl,?_⟩
 by_cases c8:hasP o=true
 ·rw[show (hasP o:Bool)=true from by simpa using c8]
  refine xr0 1 [(5,bF)] [3,4] ?_
  refine nl (cf (sk (sq (sg (xr1 2 [(7,.load (i6 o.kind))] [(7,i6 o.kind)] [5] (lc 3 (Blk.below k3 b7) 0) ?_)))))
  by_cases c9:o.kind=1
  ·refine xr1 6 [(8,.eq bT)] [(13,bT)] [7] (bE c9) ?_
   refine nl (ct (sg (xe 1 [(14,.load (.agg (o7A o (aL A o.attrs c))))] [(14,.agg (o7A o (aL A o.attrs c)))] [la 70 (⟨w.heap.size,0,none⟩) (.agg (o7A o (aL A o.attrs c))) w_6] ⟨loadsB rfl rfl (Blk.below k3 b7) 0 ⟨by kernel_rfl,by kernel_rfl⟩,trivial⟩ ?_)))
   refine xc 77 ent77 [.agg (o7A o (aL A o.attrs c))] (r4refuse_any o _ _ _ (Kd.C_below hA (bt b2 b7)) hz (hT.below (bt b2 b7))) ?_
   rintro e w_10 ⟨rfl,b11⟩; refine⟨_,rfl,?_⟩
   refine xe0 1 [(2,i6 (refuseP o:Int))] ?_
   refine nl (X_ret (rj [i6 (refuseP o:Int)] hR_ ?_))
   have hpe:pErr o=refuseP o:=by unfold pErr; simp_all
   rw[hpe]
   exact⟨rfl,(bt (bt b2 b7) b11)⟩
  refine xr 4 [(8,.eq bF),(11,.load (i6 o.kind))] [(9,bF),(11,i6 o.kind)] [7] [_,_] ⟨bN c9,lc 3 (Blk.below k3 b7) 0,trivial⟩ ?_
  by_cases c12:o.kind=2
  ·refine xe1 2 [(12,.eq bT)] [(1,pw w.heap.size 0),(13,bT)] (bE c12) ?_
   refine nl (ct (sg (xe 1 [(14,.load (.agg (o7A o (aL A o.attrs c))))] [(14,.agg (o7A o (aL A o.attrs c)))] [la 70 (⟨w.heap.size,0,none⟩) (.agg (o7A o (aL A o.attrs c))) w_6] ⟨loadsB rfl rfl (Blk.below k3 b7) 0 ⟨by kernel_rfl,by kernel_rfl⟩,trivial⟩ ?_)))
   refine xc 77 ent77 [.agg (o7A o (aL A o.attrs c))] (r4refuse_any o _ _ _ (Kd.C_below hA (bt b2 b7)) hz (hT.below (bt b2 b7))) ?_
   rintro e w13 ⟨rfl,b14⟩; refine⟨_,rfl,?_⟩
   refine xe0 1 [(2,i6 (refuseP o:Int))] ?_
   refine nl (X_ret (rj [i6 (refuseP o:Int)] hR_ ?_))
   have hpe:pErr o=refuseP o:=by unfold pErr; simp_all
   rw[hpe]
   exact⟨rfl,(bt (bt b2 b7) b14)⟩
  refine xe1 2 [(12,.eq bF)] [(1,pw w.heap.size 0),(13,bF)] (bN c12) ?_
  refine nl (cf (sk (sq (sg (xr1 2 [(17,.load (i6 o.count))] [(17,i6 o.count)] [13] (lc 3 (Blk.below k3 b7) 5) ?_)))))
  by_cases c15:o.count<1
  ·refine xr1 1 [(18,.eq bT)] [(18,bT)] [17] (dT c15) ?_
   refine nl (ct (sg (xe0 1 [(2,i6 9)] ?_)))
   refine nl (X_ret (rj [i6 9] hR_ ?_))
   have hpe:pErr o=9:=by rw[pErr_small c8 c9 c12]; first|(rw[if_pos (by omega)]; done)|(rw[if_neg (by omega),if_pos (by omega)]; done)|(rw[if_neg (by omega),if_neg (by omega),if_pos (by omega)]; done)|(rw[if_neg (by omega),if_neg (by omega),if_neg (by omega)])
   rw[hpe]
   exact⟨rfl,(bt b2 b7)⟩
  refine xr1 1 [(18,.eq bF)] [(18,bF)] [17] (dF c15) ?_
  refine nl (cf (sk (sq (sg (xr1 2 [(20,.load (i6 o.count))] [(20,i6 o.count)] [18] (lc 3 (Blk.below k3 b7) 5) ?_)))))
  by_cases c16:o.count>1099511627776
  ·refine xr1 1 [(21,.eq bT)] [(21,bT)] [20] (dT c16) ?_
   refine nl (ct (sg (xe0 1 [(2,i6 11)] ?_)))
   refine nl (X_ret (rj [i6 11] hR_ ?_))
   have hpe:pErr o=11:=by rw[pErr_small c8 c9 c12]; first|(rw[if_pos (by omega)]; done)|(rw[if_neg (by omega),if_pos (by omega)]; done)|(rw[if_neg (by omega),if_neg (by omega),if_pos (by omega)]; done)|(rw[if_neg (by omega),if_neg (by omega),if_neg (by omega)])
   rw[hpe]
   exact⟨rfl,(bt b2 b7)⟩
  refine xr1 1 [(21,.eq bF)] [(21,bF)] [20] (dF c16) ?_
  refine nl (cf (sk (sq (sg (xr1 2 [(23,.load (i6 o.kind))] [(23,i6 o.kind)] [21] (lc 3 (Blk.below k3 b7) 0) ?_)))))
  by_cases c17:o.kind=3
  ·refine xe1 1 [(24,.eq bT)] [(1,pw w.heap.size 0),(24,bT)] (bE c17) ?_
   refine nl (ct (sg (xe1 2 [(26,.load (aL A o.attrs c))] [(26,aL A o.attrs c)] (lc 68 (Blk.below k3 b7) 6) ?_)))
   refine xc 78 ent78 [.slice A o.attrs.length c,bT] (r3check_any _ _ o.attrs true _ (Kd.C_below hA (bt b2 b7)) hz.2.2.2 (hT.below (bt b2 b7))) ?_
   rintro e w18 ⟨rfl,b19⟩; refine⟨_,rfl,?_⟩
   refine xe0 1 [(2,i6 (chkA true o.attrs:Int))] ?_
   refine nl (X_ret (rj [i6 (chkA true o.attrs:Int)] hR_ ?_))
   have hk4:¬o.kind=4:=by omega
   have hpe:pErr o=chkA true o.attrs:=by rw[pErr_small c8 c9 c12]; first|(rw[if_pos (by omega)]; done)|(rw[if_neg (by omega),if_pos (by omega)]; done)|(rw[if_neg (by omega),if_neg (by omega),if_pos (by omega)]; done)|(rw[if_neg (by omega),if_neg (by omega),if_neg (by omega)])
   rw[hpe]
   exact⟨rfl,(bt (bt b2 b7) b19)⟩
  refine xe1 1 [(24,.eq bF)] [(1,pw w.heap.size 0),(24,bF)] (bN c17) ?_
  refine nl (cf (sk (sg (xe0 1 [(2,i6 0)] ?_))))
  refine nl (X_ret (rj [i6 0] hR_ ?_))
  have hk4:o.kind=4:=by have h_:=pErr_k3 c8; omega
  have hpe:pErr o=0:=by rw[pErr_small c8 c9 c12]; first|(rw[if_pos (by omega)]; done)|(rw[if_neg (by omega),if_pos (by omega)]; done)|(rw[if_neg (by omega),if_neg (by omega),if_pos (by omega)]; done)|(rw[if_neg (by omega),if_neg (by omega),if_neg (by omega)])
  rw[hpe]
  exact⟨rfl,(bt b2 b7)⟩
 rw[show (hasP o:Bool)=false from by simpa using c8]
 refine xr0 1 [(5,bT)] [3,4] ?_
 refine nl (ct (sg (xe0 1 [(2,i6 9)] ?_)))
 refine nl (X_ret (rj [i6 9] hR_ ?_))
 have hpe:pErr o=9:=pErr_has (Bool.eq_false_iff.2 c8)
 rw[hpe]
 exact⟨rfl,(bt b2 b7)⟩
theorem r5len_any (o:OpA)(A:Option Addr)(c:Nat)(w:World)(hA:kAttr.C w A o.attrs.length o.attrs)(hz:opSz o):Rt 36 #[.agg (o7A o (.slice A o.attrs.length c))] w (i6 (opLen o)):=by
 refine en Tryz.func36 rfl 15 [(0,.agg (o7A o (aL A o.attrs c)))] (fun R_ hR_=>?_)
 refine sg (xwe 1 [] [(1,pw w.heap.size 0)] (w.alloc (.cells (o7A o (aL A o.attrs c)) 70)) [] trivial ?_)
 obtain⟨w1,w5,b2,k3,z4⟩:=new_world w (o7A o (aL A o.attrs c)) 70
 rw[w5]
 refine xr0 1 [] [] ?_
 refine nl (sq (sg (xr1 2 [(4,.load (i6 o.kind))] [(4,i6 o.kind)] [] (lc 3 k3 0) ?_)))
 by_cases c6:o.kind=1
 ·refine xr1 6 [(5,.eq bT)] [(10,bT)] [4] (bE c6) ?_
  refine nl (ct (sg (xe 1 [(11,.load (.agg (o7A o (aL A o.attrs c))))] [(11,.agg (o7A o (aL A o.attrs c)))] [la 70 (⟨w.heap.size,0,none⟩) (.agg (o7A o (aL A o.attrs c))) w1] ⟨loadsB rfl rfl k3 0 ⟨by kernel_rfl,by kernel_rfl⟩,trivial⟩ ?_)))
  refine xc 51 ent51 [.agg (o7A o (aL A o.attrs c))] (r4len_any o _ _ _ (Kd.C_below hA b2) hz) ?_
  rintro e w7 ⟨rfl,b8⟩; refine⟨_,rfl,?_⟩
  refine xe0 1 [(2,i6 (len4 o))] ?_
  refine nl (X_ret (rj [i6 (len4 o)] hR_ ?_))
  rw[←len4_op (by omega)]
  exact⟨rfl,(bt b2 b8)⟩
 refine xr 4 [(5,.eq bF),(8,.load (i6 o.kind))] [(6,bF),(8,i6 o.kind)] [4] [_,_] ⟨bN c6,lc 3 k3 0,trivial⟩ ?_
 by_cases c9:o.kind=2
 ·refine xr1 2 [(9,.eq bT)] [(10,bT)] [6,8] (bE c9) ?_
  refine nl (ct (sg (xe 1 [(11,.load (.agg (o7A o (aL A o.attrs c))))] [(11,.agg (o7A o (aL A o.attrs c)))] [la 70 (⟨w.heap.size,0,none⟩) (.agg (o7A o (aL A o.attrs c))) w1] ⟨loadsB rfl rfl k3 0 ⟨by kernel_rfl,by kernel_rfl⟩,trivial⟩ ?_)))
  refine xc 51 ent51 [.agg (o7A o (aL A o.attrs c))] (r4len_any o _ _ _ (Kd.C_below hA b2) hz) ?_
  rintro e w_10 ⟨rfl,b11⟩; refine⟨_,rfl,?_⟩
  refine xe0 1 [(2,i6 (len4 o))] ?_
  refine nl (X_ret (rj [i6 (len4 o)] hR_ ?_))
  rw[←len4_op (by omega)]
  exact⟨rfl,(bt b2 b11)⟩
 refine xr1 2 [(9,.eq bF)] [(10,bF)] [6,8] (bN c9) ?_
 refine nl (cf (sk (sg (xe1 3 [(14,.load (i6 o.count))] [(2,i6 o.count)] (lc 3 k3 5) ?_))))
 refine nl (X_ret (rj [i6 o.count] hR_ ?_))
 rw[show opLen o=o.count from by unfold opLen; simp_all]
 exact⟨rfl,b2⟩
theorem r5bad_any (A:Option Addr)(c:Nat)(xs:List OpA)(w:World)(hx:kOp.C w A xs.length xs)(hn:xs.length≤100000000)(hz:∀ i,i<xs.length→opSz (xs.getD i op0))(hT:Tabs w):Rt 48 #[.slice A xs.length c] w (.tuple #[i6 (badI xs:Int),i6 (badE xs:Int)]):=by
 have hpl:xs.length≤9223372036854775807:=hx.2.1
 refine en Tryz.func48 rfl 21 [(0,aL A xs c)] (fun R_ hR_=>?_)
 refine sg (xe0 2 [(0,aL A xs c)] ?_)
 refine nl (sq (sg (xr0 1 [(4,i6 0)] [] ?_)))
 refine nl (bk (X_loop (ι:=Nat) (fun i=>[(0,aL A xs c),(4,i6 (i:Int))]) (fun i wl=>i≤xs.length∧badE (xs.take i)=0∧Below w.heap.size w wl) (fun i=>xs.length-i) 0 ⟨by omega,rfl,(Below.refl _ _)⟩ (by kernel_rfl) ?_))
 rintro i wl ⟨hi,hb0,HB⟩
 refine sq (sg (xr0 3 [(6,nv i),(8,i6 (xs.length:Int))] [] ?_))
 by_cases c1:(i:Int)<(xs.length:Int)
 ·refine xr1 1 [(9,.eq bT)] [(9,bT)] [6,8] (dT c1) ?_
  refine nl (ct (sk (sq (bk (sg (xr0 2 [(12,aL A xs c),(13,nv i)] [9] ?_))))))
  obtain⟨ad2,B5,c6,a3,hc4,l7,C8⟩:=Kd.atOp (Kd.C_below hx HB) (i:=(i:Int)) (by omega) (by omega)
  replace hc4:CellsAt wl (ad2.add ((i:Int).toNat*7)) (o7L (xs.getD i op0) (aL B5 (xs.getD i op0).attrs c6)):=hc4
  replace l7:(xs.getD i op0).attrs.length≤c6:=l7
  replace C8:kAttr.C wl B5 ((xs.getD i op0).attrs.length) (xs.getD i op0).attrs:=C8
  refine xr 2 [(14,.idx ad2),(15,.load (.agg (o7A (xs.getD i op0) (aL B5 (xs.getD i op0).attrs c6))))] [(15,.agg (o7A (xs.getD i op0) (aL B5 (xs.getD i op0).attrs c6)))] [12,13] [A=some ad2,(0:Int)≤(i:Int),(i:Int)<(xs.length:Int),la 70 (ad2.add ((i:Int).toNat*7)) (.agg (o7A (xs.getD i op0) (aL B5 (xs.getD i op0).attrs c6))) wl] ⟨a3,(by omega),(by omega),loadsE rfl rfl hc4 0 ⟨by kernel_rfl,by kernel_rfl⟩,trivial⟩ ?_
  refine xc 65 ent65 [.agg (o7A (xs.getD i op0) (aL B5 (xs.getD i op0).attrs c6))] (r5check_any (xs.getD i op0) _ _ _ C8 (hz i (by omega)) (hT.below HB)) ?_
  rintro e w9 ⟨rfl,b10⟩; refine⟨_,rfl,?_⟩
  refine xr0 1 [(5,i6 (pErr (xs.getD i op0):Int))] [15,16] ?_
  refine nl (sg (xe0 1 [(0,aL A xs c),(4,nv i),(5,i6 (pErr (xs.getD i op0):Int)),(17,i6 (pErr (xs.getD i op0):Int))] ?_))
  by_cases c11:(pErr (xs.getD i op0):Int)=0
  ·refine xr1 1 [(18,.eq bF)] [(18,bF)] [17] (nF c11) ?_
   refine nl (cf (sk (rg (xr1 3 [(11,.eq (i6 ((i:Int)+1)))] [(4,i6 ((i:Int)+1))] [5,18] (w6 ((i:Int)+1)) ?_))))
   refine nl ?_
   refine⟨(i+1),by kernel_rfl,?_,?_⟩
   ·exact⟨by omega,badE_succ (by omega) hb0 (by omega),(bt HB b10)⟩
   (try dsimp only); omega
  refine xr1 1 [(18,.eq bT)] [(18,bT)] [17] (nT c11) ?_
  refine nl (ct (sg (xe0 4 [(2,nv i),(3,i6 (pErr (xs.getD i op0):Int))] ?_)))
  refine nl (X_ret (rj [i6 (i:Int),i6 (pErr (xs.getD i op0):Int)] hR_ ?_))
  have hne:pErr (xs.getD i op0)≠0:=by omega
  rw[badE_stop (xs:=xs) (i:=i) (by omega) hb0 hne,badI_stop (xs:=xs) (i:=i) (by omega) hb0 hne]
  exact⟨rfl,(bt HB b10)⟩
 refine xr1 1 [(9,.eq bF)] [(9,bF)] [6,8] (dF c1) ?_
 refine nl (cf (X_exit (sg (xe0 2 [(2,i6 0),(3,i6 0)] ?_))))
 refine nl (X_ret (rj [i6 0,i6 0] hR_ ?_))
 have hxi:xs.take i=xs:=List.take_of_length_le (by omega)
 rw[hxi]at hb0
 rw[hb0,badI_none hb0]
 exact⟨rfl,HB⟩
set_option maxHeartbeats 2000000 in
theorem r5lens_any (A:Option Addr)(c:Nat)(xs:List OpA)(w:World)(hx:kOp.C w A xs.length xs)(hn:xs.length≤100000000)(hz:∀ i,i<xs.length→opSz (xs.getD i op0))(hT:Tabs w):Rt 33 #[.slice A xs.length c] w (.tuple #[i6 (lenP xs).1,i6 (lenP xs).2.1,i6 ((lenP xs).2.2:Int)]):=by
 have hpl:xs.length≤9223372036854775807:=hx.2.1
 refine en Tryz.func33 rfl 64 [(0,aL A xs c)] (fun R_ hR_=>?_)
 refine sg (xe0 3 [(0,aL A xs c)] ?_)
 refine nl (sg (xr0 1 [(12,aL A xs c)] [] ?_))
 refine xc 48 ent48 [aL A xs c] (r5bad_any _ _ xs _ hx hn hz (hT.below (Below.refl _ _))) ?_
 rintro e w1 ⟨rfl,b2⟩; refine⟨_,rfl,?_⟩
 refine xr0 5 [(6,i6 (badE xs:Int))] [12,13] ?_
 refine nl (sq (sg (xr0 1 [(16,i6 (badE xs:Int))] [] ?_)))
 by_cases c3:(badE xs:Int)=0
 ·refine xr1 1 [(17,.eq bF)] [(17,bF)] [16] (nF c3) ?_
  refine nl (cf (sk (sg (xr0 2 [(7,i6 0),(8,i6 0)] [6,17] ?_))))
  refine nl (sq (sg (xe0 1 [(0,aL A xs c),(7,i6 0),(8,i6 0),(9,i6 0)] ?_)))
  refine nl (X_block ?_)
  have hbe:badE xs=0:=by omega
  refine X_loop (ι:=Nat×Int×Int) (fun⟨i,b,r⟩=>[(0,aL A xs c),(7,i6 b),(8,i6 r),(9,i6 (i:Int))]) (fun⟨i,b,r⟩ wl=>i≤xs.length∧b=sB (xs.take i)∧r=sR (xs.take i)∧b≤1099511627776∧r≤1099511627776∧Below w.heap.size w wl) (fun⟨i,b,r⟩=>xs.length-i) (0,0,0) ⟨by omega,rfl,rfl,by omega,by omega,b2⟩ (by kernel_rfl) ?_
  rintro⟨i,b,r⟩ wl ⟨hi,hbb,hrr,hbl,hrl,HB⟩
  have hs0:=sB_ok (badE_take hbe i)
  have hs1:=sR_ok (badE_take hbe i)
  refine sq (sg (xr0 3 [(19,nv i),(21,i6 (xs.length:Int))] [] ?_))
  by_cases c4:(i:Int)<(xs.length:Int)
  ·refine xr1 1 [(22,.eq bT)] [(22,bT)] [19,21] (dT c4) ?_
   refine nl (ct (sk (sq (bk (sg (xr0 2 [(25,aL A xs c),(26,nv i)] [22] ?_))))))
   obtain⟨ad5,B8,c9,a6,hc7,l10,C11⟩:=Kd.atOp (Kd.C_below hx HB) (i:=(i:Int)) (by omega) (by omega)
   replace hc7:CellsAt wl (ad5.add ((i:Int).toNat*7)) (o7L (xs.getD i op0) (aL B8 (xs.getD i op0).attrs c9)):=hc7
   replace l10:(xs.getD i op0).attrs.length≤c9:=l10
   replace C11:kAttr.C wl B8 ((xs.getD i op0).attrs.length) (xs.getD i op0).attrs:=C11
   refine xr 2 [(27,.idx ad5),(28,.load (.agg (o7A (xs.getD i op0) (aL B8 (xs.getD i op0).attrs c9))))] [(28,.agg (o7A (xs.getD i op0) (aL B8 (xs.getD i op0).attrs c9)))] [25,26] [A=some ad5,(0:Int)≤(i:Int),(i:Int)<(xs.length:Int),la 70 (ad5.add ((i:Int).toNat*7)) (.agg (o7A (xs.getD i op0) (aL B8 (xs.getD i op0).attrs c9))) wl] ⟨a6,(by omega),(by omega),loadsE rfl rfl hc7 0 ⟨by kernel_rfl,by kernel_rfl⟩,trivial⟩ ?_
   refine xc 36 ent36 [.agg (o7A (xs.getD i op0) (aL B8 (xs.getD i op0).attrs c9))] (r5len_any (xs.getD i op0) _ _ _ C11 (hz i (by omega))) ?_
   rintro e w12 ⟨rfl,b13⟩; refine⟨_,rfl,?_⟩
   have hpe:=badE_getD hbe (show i<xs.length by omega)
   have hol:=opLen_ok hpe
   have hol2:opLen (xs.getD i op0)≤1099511627776:=by have h1_:=(hz i (by omega)).1; have h2_:=U.sc_le (xs.getD i op0).text; have h3_:=fun hk_=>count_of_ok hpe hk_; have h4_:=kind_of_ok hpe; unfold opLen; by_cases k1_:(xs.getD i op0).kind=1; (· rw[if_pos k1_]; omega); (· rw[if_neg k1_]; by_cases k2_:(xs.getD i op0).kind=2; (· rw[if_pos k2_]; omega); (· rw[if_neg k2_]; exact(h3_ (by omega)).2))
   have hst1:=sumI_take opB xs i (by omega)
   have hst2:=sumI_take opR xs i (by omega)
   have hob:opB (xs.getD i op0)=if (xs.getD i op0).kind=3∨(xs.getD i op0).kind=4 then opLen (xs.getD i op0)else 0:=rfl
   have hor:opR (xs.getD i op0)=if (xs.getD i op0).kind=4 then 0 else opLen (xs.getD i op0):=rfl
   have hstl:=sum_take_le hbe (i+1)
   refine xr0 1 [(10,i6 (opLen (xs.getD i op0)))] [28,29] ?_
   refine nl (sq (sg (xe0 2 [(0,aL A xs c),(7,i6 b),(8,i6 r),(9,nv i),(10,i6 (opLen (xs.getD i op0))),(30,aL A xs c),(31,nv i)] ?_)))
   obtain⟨ad14,B17,c18,a15,hc16,l19,C20⟩:=Kd.atOp (Kd.C_below hx (bt HB b13)) (i:=(i:Int)) (by omega) (by omega)
   replace hc16:CellsAt w12 (ad14.add ((i:Int).toNat*7)) (o7L (xs.getD i op0) (aL B17 (xs.getD i op0).attrs c18)):=hc16
   replace l19:(xs.getD i op0).attrs.length≤c18:=l19
   replace C20:kAttr.C w12 B17 ((xs.getD i op0).attrs.length) (xs.getD i op0).attrs:=C20
   refine xr 3 [(32,.idx ad14),(34,.load (i6 ((xs.getD i op0).kind)))] [(34,i6 ((xs.getD i op0).kind))] [30,31] [A=some ad14,(0:Int)≤(i:Int),(i:Int)<(xs.length:Int),la 3 (ad14.add ((i:Int).toNat*7)) (i6 ((xs.getD i op0).kind)) w12] ⟨a15,(by omega),(by omega),loads1 rfl (elem_cell hc16 0 _ rfl),trivial⟩ ?_
   by_cases c21:(xs.getD i op0).kind=3
   ·refine xr1 9 [(35,.eq bT)] [(43,bT)] [34] (bE c21) ?_
    refine nl (ct (rg (xr1 4 [(46,.eq (i6 (b+(opLen (xs.getD i op0)))))] [(7,i6 (b+(opLen (xs.getD i op0))))] [43] (w6 (b+(opLen (xs.getD i op0)))) ?_)))
    refine nl (sq (sg (xr0 2 [(47,aL A xs c),(48,nv i)] [] ?_)))
    obtain⟨ad22,B25,c26,a23,hc24,l27,C28⟩:=Kd.atOp (Kd.C_below hx (bt HB b13)) (i:=(i:Int)) (by omega) (by omega)
    replace hc24:CellsAt w12 (ad22.add ((i:Int).toNat*7)) (o7L (xs.getD i op0) (aL B25 (xs.getD i op0).attrs c26)):=hc24
    replace l27:(xs.getD i op0).attrs.length≤c26:=l27
    replace C28:kAttr.C w12 B25 ((xs.getD i op0).attrs.length) (xs.getD i op0).attrs:=C28
    refine xr 3 [(49,.idx ad22),(51,.load (i6 ((xs.getD i op0).kind)))] [(51,i6 ((xs.getD i op0).kind))] [47,48] [A=some ad22,(0:Int)≤(i:Int),(i:Int)<(xs.length:Int),la 3 (ad22.add ((i:Int).toNat*7)) (i6 ((xs.getD i op0).kind)) w12] ⟨a23,(by omega),(by omega),loads1 rfl (elem_cell hc24 0 _ rfl),trivial⟩ ?_
    by_cases c29:(xs.getD i op0).kind=4
    ·exfalso; omega
    refine xe1 1 [(52,.eq bT)] [(0,aL A xs c),(7,i6 (b+(opLen (xs.getD i op0)))),(8,i6 r),(9,nv i),(10,i6 (opLen (xs.getD i op0))),(52,bT)] (nT c29) ?_
    refine nl (ct (rg (xr1 4 [(55,.eq (i6 (r+(opLen (xs.getD i op0)))))] [(8,i6 (r+(opLen (xs.getD i op0))))] [10,52] (w6 (r+(opLen (xs.getD i op0)))) ?_)))
    refine nl (sg (xr0 1 [(56,i6 (b+(opLen (xs.getD i op0))))] [] ?_))
    by_cases c30:b+(opLen (xs.getD i op0))>1099511627776
    ·refine xr1 5 [(57,.eq bT)] [(61,bT)] [56] (dT c30) ?_
     refine nl (ct (sg (xe0 3 [(2,i6 0),(3,i6 0),(4,i6 11)] ?_)))
     refine nl (X_ret (rj [i6 0,i6 0,i6 11] hR_ ?_))
     rw[if_pos (by omega)]at hob
     rw[if_neg (by omega)]at hor
     rw[hob]at hst1
     rw[hor]at hst2
     rw[lenP_long hbe (by unfold sB sR at *; omega)]
     exact⟨rfl,(bt HB b13)⟩
    refine xr1 3 [(57,.eq bF)] [(58,bF),(59,i6 (r+(opLen (xs.getD i op0))))] [56] (dF c30) ?_
    by_cases c31:r+(opLen (xs.getD i op0))>1099511627776
    ·refine xr1 2 [(60,.eq bT)] [(61,bT)] [58,59] (dT c31) ?_
     refine nl (ct (sg (xe0 3 [(2,i6 0),(3,i6 0),(4,i6 11)] ?_)))
     refine nl (X_ret (rj [i6 0,i6 0,i6 11] hR_ ?_))
     rw[if_pos (by omega)]at hob
     rw[if_neg (by omega)]at hor
     rw[hob]at hst1
     rw[hor]at hst2
     rw[lenP_long hbe (by unfold sB sR at *; omega)]
     exact⟨rfl,(bt HB b13)⟩
    refine xr1 2 [(60,.eq bF)] [(61,bF)] [58,59] (dF c31) ?_
    refine nl (cf (sk (rg (xr1 3 [(24,.eq (i6 ((i:Int)+1)))] [(9,i6 ((i:Int)+1))] [61] (w6 ((i:Int)+1)) ?_))))
    refine nl ?_
    refine⟨(i+1,b+(opLen (xs.getD i op0)),r+(opLen (xs.getD i op0))),by kernel_rfl,?_,?_⟩
    ·rw[if_pos (by omega)]at hob
     rw[if_neg (by omega)]at hor
     rw[hob]at hst1
     rw[hor]at hst2
     exact⟨by omega,by unfold sB at *; omega,by unfold sR at *; omega,by omega,by omega,(bt HB b13)⟩
    (try dsimp only); omega
   refine xr1 4 [(35,.eq bF)] [(36,bF),(37,aL A xs c),(38,nv i)] [34] (bN c21) ?_
   obtain⟨ad32,B35,c36,a33,hc34,l37,C38⟩:=Kd.atOp (Kd.C_below hx (bt HB b13)) (i:=(i:Int)) (by omega) (by omega)
   replace hc34:CellsAt w12 (ad32.add ((i:Int).toNat*7)) (o7L (xs.getD i op0) (aL B35 (xs.getD i op0).attrs c36)):=hc34
   replace l37:(xs.getD i op0).attrs.length≤c36:=l37
   replace C38:kAttr.C w12 B35 ((xs.getD i op0).attrs.length) (xs.getD i op0).attrs:=C38
   refine xr 3 [(39,.idx ad32),(41,.load (i6 ((xs.getD i op0).kind)))] [(41,i6 ((xs.getD i op0).kind))] [37,38] [A=some ad32,(0:Int)≤(i:Int),(i:Int)<(xs.length:Int),la 3 (ad32.add ((i:Int).toNat*7)) (i6 ((xs.getD i op0).kind)) w12] ⟨a33,(by omega),(by omega),loads1 rfl (elem_cell hc34 0 _ rfl),trivial⟩ ?_
   by_cases c39:(xs.getD i op0).kind=4
   ·refine xr1 2 [(42,.eq bT)] [(43,bT)] [36,41] (bE c39) ?_
    refine nl (ct (rg (xr1 4 [(46,.eq (i6 (b+(opLen (xs.getD i op0)))))] [(7,i6 (b+(opLen (xs.getD i op0))))] [43] (w6 (b+(opLen (xs.getD i op0)))) ?_)))
    refine nl (sq (sg (xe0 2 [(0,aL A xs c),(7,i6 (b+(opLen (xs.getD i op0)))),(8,i6 r),(9,nv i),(10,i6 (opLen (xs.getD i op0))),(47,aL A xs c),(48,nv i)] ?_)))
    obtain⟨ad40,B43,c44,a41,c42,l45,C46⟩:=Kd.atOp (Kd.C_below hx (bt HB b13)) (i:=(i:Int)) (by omega) (by omega)
    replace c42:CellsAt w12 (ad40.add ((i:Int).toNat*7)) (o7L (xs.getD i op0) (aL B43 (xs.getD i op0).attrs c44)):=c42
    replace l45:(xs.getD i op0).attrs.length≤c44:=l45
    replace C46:kAttr.C w12 B43 ((xs.getD i op0).attrs.length) (xs.getD i op0).attrs:=C46
    refine xr 4 [(49,.idx ad40),(51,.load (i6 ((xs.getD i op0).kind))),(52,.eq bF)] [(52,bF)] [47,48] [A=some ad40,(0:Int)≤(i:Int),(i:Int)<(xs.length:Int),la 3 (ad40.add ((i:Int).toNat*7)) (i6 ((xs.getD i op0).kind)) w12,_] ⟨a41,(by omega),(by omega),loads1 rfl (elem_cell c42 0 _ rfl),nF c39,trivial⟩ ?_
    refine nl (cf (sk (sg (xr0 1 [(56,i6 (b+(opLen (xs.getD i op0))))] [10,52] ?_))))
    by_cases c47:b+(opLen (xs.getD i op0))>1099511627776
    ·refine xr1 5 [(57,.eq bT)] [(61,bT)] [56] (dT c47) ?_
     refine nl (ct (sg (xe0 3 [(2,i6 0),(3,i6 0),(4,i6 11)] ?_)))
     refine nl (X_ret (rj [i6 0,i6 0,i6 11] hR_ ?_))
     rw[if_pos (by omega)]at hob
     rw[if_pos (by omega)]at hor
     rw[hob]at hst1
     rw[hor]at hst2
     rw[lenP_long hbe (by unfold sB sR at *; omega)]
     exact⟨rfl,(bt HB b13)⟩
    refine xr1 3 [(57,.eq bF)] [(58,bF),(59,i6 r)] [56] (dF c47) ?_
    by_cases c48:r>1099511627776
    ·refine xr1 2 [(60,.eq bT)] [(61,bT)] [58,59] (dT c48) ?_
     refine nl (ct (sg (xe0 3 [(2,i6 0),(3,i6 0),(4,i6 11)] ?_)))
     refine nl (X_ret (rj [i6 0,i6 0,i6 11] hR_ ?_))
     rw[if_pos (by omega)]at hob
     rw[if_pos (by omega)]at hor
     rw[hob]at hst1
     rw[hor]at hst2
     rw[lenP_long hbe (by unfold sB sR at *; omega)]
     exact⟨rfl,(bt HB b13)⟩
    refine xr1 2 [(60,.eq bF)] [(61,bF)] [58,59] (dF c48) ?_
    refine nl (cf (sk (rg (xr1 3 [(24,.eq (i6 ((i:Int)+1)))] [(9,i6 ((i:Int)+1))] [61] (w6 ((i:Int)+1)) ?_))))
    refine nl ?_
    refine⟨(i+1,b+(opLen (xs.getD i op0)),r),by kernel_rfl,?_,?_⟩
    ·rw[if_pos (by omega)]at hob
     rw[if_pos (by omega)]at hor
     rw[hob]at hst1
     rw[hor]at hst2
     exact⟨by omega,by unfold sB at *; omega,by unfold sR at *; omega,by omega,by omega,(bt HB b13)⟩
    (try dsimp only); omega
   refine xr1 2 [(42,.eq bF)] [(43,bF)] [36,41] (bN c39) ?_
   refine nl (cf (sk (sq (sg (xr0 2 [(47,aL A xs c),(48,nv i)] [43] ?_)))))
   obtain⟨ad49,B52,c53,a50,c51,l54,C55⟩:=Kd.atOp (Kd.C_below hx (bt HB b13)) (i:=(i:Int)) (by omega) (by omega)
   replace c51:CellsAt w12 (ad49.add ((i:Int).toNat*7)) (o7L (xs.getD i op0) (aL B52 (xs.getD i op0).attrs c53)):=c51
   replace l54:(xs.getD i op0).attrs.length≤c53:=l54
   replace C55:kAttr.C w12 B52 ((xs.getD i op0).attrs.length) (xs.getD i op0).attrs:=C55
   refine xe 4 [(49,.idx ad49),(51,.load (i6 ((xs.getD i op0).kind))),(52,.eq bT)] [(0,aL A xs c),(7,i6 b),(8,i6 r),(9,nv i),(10,i6 (opLen (xs.getD i op0))),(52,bT)] [A=some ad49,(0:Int)≤(i:Int),(i:Int)<(xs.length:Int),la 3 (ad49.add ((i:Int).toNat*7)) (i6 ((xs.getD i op0).kind)) w12,_] ⟨a50,(by omega),(by omega),loads1 rfl (elem_cell c51 0 _ rfl),nT c39,trivial⟩ ?_
   refine nl (ct (rg (xr1 4 [(55,.eq (i6 (r+(opLen (xs.getD i op0)))))] [(8,i6 (r+(opLen (xs.getD i op0))))] [10,52] (w6 (r+(opLen (xs.getD i op0)))) ?_)))
   refine nl (sg (xr0 1 [(56,i6 b)] [] ?_))
   by_cases c56:b>1099511627776
   ·refine xr1 5 [(57,.eq bT)] [(61,bT)] [56] (dT c56) ?_
    refine nl (ct (sg (xe0 3 [(2,i6 0),(3,i6 0),(4,i6 11)] ?_)))
    refine nl (X_ret (rj [i6 0,i6 0,i6 11] hR_ ?_))
    rw[if_neg (by omega)]at hob
    rw[if_neg (by omega)]at hor
    rw[hob]at hst1
    rw[hor]at hst2
    rw[lenP_long hbe (by unfold sB sR at *; omega)]
    exact⟨rfl,(bt HB b13)⟩
   refine xr1 3 [(57,.eq bF)] [(58,bF),(59,i6 (r+(opLen (xs.getD i op0))))] [56] (dF c56) ?_
   by_cases c57:r+(opLen (xs.getD i op0))>1099511627776
   ·refine xr1 2 [(60,.eq bT)] [(61,bT)] [58,59] (dT c57) ?_
    refine nl (ct (sg (xe0 3 [(2,i6 0),(3,i6 0),(4,i6 11)] ?_)))
    refine nl (X_ret (rj [i6 0,i6 0,i6 11] hR_ ?_))
    rw[if_neg (by omega)]at hob
    rw[if_neg (by omega)]at hor
    rw[hob]at hst1
    rw[hor]at hst2
    rw[lenP_long hbe (by unfold sB sR at *; omega)]
    exact⟨rfl,(bt HB b13)⟩
   refine xr1 2 [(60,.eq bF)] [(61,bF)] [58,59] (dF c57) ?_
   refine nl (cf (sk (rg (xr1 3 [(24,.eq (i6 ((i:Int)+1)))] [(9,i6 ((i:Int)+1))] [61] (w6 ((i:Int)+1)) ?_))))
   refine nl ?_
   refine⟨(i+1,b,r+(opLen (xs.getD i op0))),by kernel_rfl,?_,?_⟩
   ·rw[if_neg (by omega)]at hob
    rw[if_neg (by omega)]at hor
    rw[hob]at hst1
    rw[hor]at hst2
    exact⟨by omega,by unfold sB at *; omega,by unfold sR at *; omega,by omega,by omega,(bt HB b13)⟩
   (try dsimp only); omega
  refine xr1 1 [(22,.eq bF)] [(22,bF)] [19,21] (dF c4) ?_
  refine nl (cf (X_exit (sg (xe0 5 [(2,i6 b),(3,i6 r),(4,i6 0)] ?_))))
  refine nl (X_ret (rj [i6 b,i6 r,i6 0] hR_ ?_))
  have hxi:xs.take i=xs:=List.take_of_length_le (by omega)
  rw[hxi]at hbb hrr
  rw[lenP_ok hbe (by omega),←hbb,←hrr]
  exact⟨rfl,HB⟩
 refine xr1 1 [(17,.eq bT)] [(17,bT)] [16] (nT c3) ?_
 refine nl (ct (sg (xe0 4 [(2,i6 0),(3,i6 0),(4,i6 (badE xs:Int))] ?_)))
 refine nl (X_ret (rj [i6 0,i6 0,i6 (badE xs:Int)] hR_ ?_))
 rw[lenP_bad (show badE xs≠0 by omega)]
 exact⟨rfl,b2⟩
theorem apart_any (a b:OpA)(A B:Option Addr)(c d:Nat)(w:World)(hA:kAttr.C w A a.attrs.length a.attrs)(hB:kAttr.C w B b.attrs.length b.attrs):Rt 44 #[.agg (o7A a (.slice A a.attrs.length c)),.agg (o7A b (.slice B b.attrs.length d))] w (.bool (fitsP a b)):=by
 refine en Tryz.func44 rfl 27 [(0,.agg (o7A a (aL A a.attrs c))),(1,.agg (o7A b (aL B b.attrs d)))] (fun R_ hR_=>?_)
 refine sg (xwe 1 [] [(1,.agg (o7A b (aL B b.attrs d))),(2,pw w.heap.size 0)] (w.alloc (.cells (o7A a (aL A a.attrs c)) 70)) [] trivial ?_)
 obtain⟨w1,w5,b2,k3,z4⟩:=new_world w (o7A a (aL A a.attrs c)) 70
 rw[w5]
 refine xw 1 [] [(3,pw w1.heap.size 0)] [1] (w1.alloc (.cells (o7A b (aL B b.attrs d)) 70)) [] trivial ?_
 obtain⟨w_6,w10,b7,k8,z9⟩:=new_world w1 (o7A b (aL B b.attrs d)) 70
 rw[w10]
 refine xr0 1 [] [] ?_
 refine nl (sq (sg (xr1 2 [(6,.load (i6 a.kind))] [(6,i6 a.kind)] [] (lc 3 (Blk.below k3 b7) 0) ?_)))
 by_cases c11:a.kind=4
 ·refine xr1 1 [(7,.eq bT)] [(7,bT)] [6] (bE c11) ?_
  refine nl (ct (sg (xe1 2 [(9,.load (i6 b.kind))] [(9,i6 b.kind)] (lc 3 k8 0) ?_)))
  by_cases c12:b.kind=3
  ·refine xe1 2 [(10,.eq bT)] [(4,bT)] (bE c12) ?_
   refine nl (X_ret (rj [bT] hR_ ?_))
   rw[show fitsP a b=true from by unfold fitsP; simp_all]
   exact⟨rfl,(bt b2 b7)⟩
  refine xe1 2 [(10,.eq bF)] [(4,bF)] (bN c12) ?_
  refine nl (X_ret (rj [bF] hR_ ?_))
  rw[show fitsP a b=false from by unfold fitsP; simp_all]
  exact⟨rfl,(bt b2 b7)⟩
 refine xr1 1 [(7,.eq bF)] [(7,bF)] [6] (bN c11) ?_
 refine nl (cf (sk (sq (sg (xr 4 [(12,.load (i6 a.kind)),(14,.load (i6 b.kind))] [(12,i6 a.kind),(14,i6 b.kind)] [7] [_,_] ⟨lc 3 (Blk.below k3 b7) 0,lc 3 k8 0,trivial⟩ ?_)))))
 by_cases c13:a.kind=b.kind
 ·refine xe 4 [(15,.eq bF),(18,.load (i6 a.kind))] [(2,pw w.heap.size 0),(3,pw w1.heap.size 0),(16,bF),(18,i6 a.kind)] [_,_] ⟨nF c13,lc 3 (Blk.below k3 b7) 0,trivial⟩ ?_
  by_cases c14:a.kind=2
  ·refine xr1 2 [(19,.eq bT)] [(20,bT)] [16,18] (bE c14) ?_
   refine nl (ct (sg (xe0 1 [(4,bT)] ?_)))
   refine nl (X_ret (rj [bT] hR_ ?_))
   rw[show fitsP a b=true from by unfold fitsP; simp_all]
   exact⟨rfl,(bt b2 b7)⟩
  refine xr1 2 [(19,.eq bF)] [(20,bF)] [16,18] (bN c14) ?_
  refine nl (cf (sk (sg (xe 4 [(22,.load (aL A a.attrs c)),(24,.load (aL B b.attrs d))] [(22,aL A a.attrs c),(24,aL B b.attrs d)] [_,_] ⟨lc 68 (Blk.below k3 b7) 6,lc 68 k8 6,trivial⟩ ?_))))
  refine xc 58 ent58 [.slice A a.attrs.length c,aL B b.attrs d] (sattrs_any _ _ _ _ a.attrs b.attrs _ (Kd.C_below hA (bt b2 b7)) (Kd.C_below hB (bt b2 b7))) ?_
  rintro e w15 ⟨rfl,b16⟩; refine⟨_,rfl,?_⟩
  by_cases c17:decide (a.attrs=b.attrs)=true
  ·rw[show (decide (a.attrs=b.attrs):Bool)=true from by simpa using c17]
   refine xe0 2 [(4,bF)] ?_
   refine nl (X_ret (rj [bF] hR_ ?_))
   rw[show fitsP a b=false from by unfold fitsP; simp_all]
   exact⟨rfl,(bt (bt b2 b7) b16)⟩
  rw[show (decide (a.attrs=b.attrs):Bool)=false from by simpa using c17]
  refine xe0 2 [(4,bT)] ?_
  refine nl (X_ret (rj [bT] hR_ ?_))
  rw[show fitsP a b=true from by unfold fitsP; simp_all]
  exact⟨rfl,(bt (bt b2 b7) b16)⟩
 refine xe1 6 [(15,.eq bT)] [(2,pw w.heap.size 0),(3,pw w1.heap.size 0),(20,bT)] (nT c13) ?_
 refine nl (ct (sg (xe0 1 [(4,bT)] ?_)))
 refine nl (X_ret (rj [bT] hR_ ?_))
 rw[show fitsP a b=true from by unfold fitsP; simp_all]
 exact⟨rfl,(bt b2 b7)⟩
set_option maxHeartbeats 2000000 in
theorem r5can_any (A:Option Addr)(c:Nat)(xs:List OpA)(w:World)(hx:kOp.C w A xs.length xs)(hn:xs.length≤100000000)(hz:∀ i,i<xs.length→opSz (xs.getD i op0))(hT:Tabs w):Rt 31 #[.slice A xs.length c] w (.bool (canP xs)):=by
 have hpl:xs.length≤9223372036854775807:=hx.2.1
 refine en Tryz.func31 rfl 56 [(0,aL A xs c)] (fun R_ hR_=>?_)
 refine sg (xe0 1 [(0,aL A xs c)] ?_)
 refine nl (sg (xr0 1 [(9,aL A xs c)] [] ?_))
 refine xc 33 ent33 [aL A xs c] (r5lens_any _ _ xs _ hx hn hz (hT.below (Below.refl _ _))) ?_
 rintro e w1 ⟨rfl,b2⟩; refine⟨_,rfl,?_⟩
 refine xr0 7 [(5,i6 ((lenP xs).2.2:Int))] [9,10] ?_
 refine nl (sq (sg (xr0 1 [(14,i6 ((lenP xs).2.2:Int))] [5] ?_)))
 by_cases c3:((lenP xs).2.2:Int)=0
 ·refine xr1 1 [(15,.eq bF)] [(15,bF)] [14] (nF c3) ?_
  refine nl (cf (sk (sq (sg (xr0 1 [(6,i6 1)] [15] ?_)))))
  refine nl (X_block ?_)
  have hk0:(lenP xs).2.2=0:=by omega
  refine X_loop (ι:=Nat) (fun i=>[(0,aL A xs c),(6,i6 (i:Int))]) (fun i wl=>1≤i∧i≤xs.length+1∧(∀ q,q+1<i→fitsP (xs.getD q op0) (xs.getD (q+1) op0)=true)∧Below w.heap.size w wl) (fun i=>xs.length+1-i) 1 ⟨by omega,by omega,fun q hq=>by omega,b2⟩ (by kernel_rfl) ?_
  rintro i wl ⟨hi1,hi,hch,HB⟩
  have hzi:((i:Int)-1).toNat=i-1:=by omega
  refine sq (sg (xr0 3 [(16,nv i),(18,i6 (xs.length:Int))] [] ?_))
  by_cases c4:(i:Int)<(xs.length:Int)
  ·refine xr1 1 [(19,.eq bT)] [(19,bT)] [16,18] (dT c4) ?_
   refine nl (ct (sk (sq (bk (sq (X_any [9] 11 (tf 0 11) (by kernel_rfl) (by kernel_rfl) (by kernel_rfl) (fun wd5 b6 h7=>?_)))))))
   refine XA_runC (fuel':=8) [0,1,2] [(24,.eq (i6 ((i:Int)-1)))] [.slice A xs.length c,i6 (i:Int),i6 ((i:Int)-1)] (tf 3 8) [(22,aL A xs c),(24,i6 ((i:Int)-1))] [19] [i6 (IntKind.i64.wrap ((i:Int)-1))=i6 ((i:Int)-1)] ⟨wr_i64 (by omega) (by omega),trivial⟩ ?_
   obtain⟨ad8,B11,c12,a9,hc10,l13,C14⟩:=Kd.atOp (Kd.C_below hx (bt HB b6)) (i:=(i:Int)-1) (by omega) (by omega)
   replace hc10:CellsAt wd5 (ad8.add (((i:Int)-1).toNat*7)) (o7L (xs.getD ((i:Int)-1).toNat op0) (aL B11 (xs.getD ((i:Int)-1).toNat op0).attrs c12)):=hc10
   replace l13:(xs.getD ((i:Int)-1).toNat op0).attrs.length≤c12:=l13
   replace C14:kAttr.C wd5 B11 ((xs.getD ((i:Int)-1).toNat op0).attrs.length) (xs.getD ((i:Int)-1).toNat op0).attrs:=C14
   refine XA_runC (fuel':=4) [3,4,5,6] [(25,.idx ad8),(26,.load (.agg (o7A (xs.getD ((i:Int)-1).toNat op0) (aL B11 (xs.getD ((i:Int)-1).toNat op0).attrs c12))))] [.pointer (some (ad8.add (((i:Int)-1).toNat*7))),.agg (o7A (xs.getD ((i:Int)-1).toNat op0) (aL B11 (xs.getD ((i:Int)-1).toNat op0).attrs c12)),.slice A xs.length c,i6 (i:Int)] (tf 7 4) [(26,.agg (o7A (xs.getD ((i:Int)-1).toNat op0) (aL B11 (xs.getD ((i:Int)-1).toNat op0).attrs c12))),(27,aL A xs c),(28,nv i)] [22,24] [A=some ad8,(0:Int)≤(i:Int)-1,(i:Int)-1<(xs.length:Int),la 70 (ad8.add (((i:Int)-1).toNat*7)) (.agg (o7A (xs.getD ((i:Int)-1).toNat op0) (aL B11 (xs.getD ((i:Int)-1).toNat op0).attrs c12))) wd5] ⟨a9,(by omega),(by omega),loadsE rfl rfl hc10 0 ⟨by kernel_rfl,by kernel_rfl⟩,trivial⟩ ?_
   obtain⟨ad15,B18,c19,a16,hc17,l20,C21⟩:=Kd.atOp (Kd.C_below hx (bt HB b6)) (i:=(i:Int)) (by omega) (by omega)
   replace hc17:CellsAt wd5 (ad15.add ((i:Int).toNat*7)) (o7L (xs.getD i op0) (aL B18 (xs.getD i op0).attrs c19)):=hc17
   replace l20:(xs.getD i op0).attrs.length≤c19:=l20
   replace C21:kAttr.C wd5 B18 ((xs.getD i op0).attrs.length) (xs.getD i op0).attrs:=C21
   refine XA_runC (fuel':=2) [7,8] [(29,.idx ad15),(30,.load (.agg (o7A (xs.getD i op0) (aL B18 (xs.getD i op0).attrs c19))))] [.pointer (some (ad15.add ((i:Int).toNat*7))),.agg (o7A (xs.getD i op0) (aL B18 (xs.getD i op0).attrs c19))] (tf 9 2) [(30,.agg (o7A (xs.getD i op0) (aL B18 (xs.getD i op0).attrs c19)))] [27,28] [A=some ad15,(0:Int)≤(i:Int),(i:Int)<(xs.length:Int),la 70 (ad15.add ((i:Int).toNat*7)) (.agg (o7A (xs.getD i op0) (aL B18 (xs.getD i op0).attrs c19))) wd5] ⟨a16,(by omega),(by omega),loadsE rfl rfl hc17 0 ⟨by kernel_rfl,by kernel_rfl⟩,trivial⟩ ?_
   refine XA_act (fuel':=1) 9 (tf 10 1) _ rfl (by kernel_rfl) rfl (by kernel_rfl) rfl ?_
   refine xc 44 ent44 [.agg (o7A (xs.getD ((i:Int)-1).toNat op0) (aL B11 (xs.getD ((i:Int)-1).toNat op0).attrs c12)),.agg (o7A (xs.getD i op0) (aL B18 (xs.getD i op0).attrs c19))] (apart_any (xs.getD ((i:Int)-1).toNat op0) (xs.getD i op0) _ _ _ _ _ C14 C21) ?_
   rintro e w22 ⟨rfl,b23⟩; refine⟨_,rfl,?_⟩
   refine nl ?_
   by_cases c24:fitsP (xs.getD ((i:Int)-1).toNat op0) (xs.getD i op0)=true
   ·rw[show (fitsP (xs.getD ((i:Int)-1).toNat op0) (xs.getD i op0):Bool)=true from by simpa using c24]
    refine XA_pure (fuel':=0) [10] [] [bF] (tf 11 0) [(0,aL A xs c),(6,i6 (i:Int)),(32,bF)] (fun w_=>[]) (fun w_=>trivial) ?_
    refine XA_done (by kernel_rfl) ?_
    refine cf (sk (rg (xr1 3 [(21,.eq (i6 ((i:Int)+1)))] [(6,i6 ((i:Int)+1))] [32] (w6 ((i:Int)+1)) ?_)))
    refine nl ?_
    refine⟨(i+1),by kernel_rfl,?_,?_⟩
    ·exact⟨by omega,by omega,fun q hq=>by by_cases e_:q+1=i; (· have h_:=c24; rw[hzi]at h_; rw[show q=i-1 from by omega,show i-1+1=i from by omega]; exact h_); (· exact hch q (by omega)),(bt (bt HB b6) b23)⟩
    (try dsimp only); omega
   rw[show (fitsP (xs.getD ((i:Int)-1).toNat op0) (xs.getD i op0):Bool)=false from by simpa using c24]
   refine XA_pure (fuel':=0) [10] [] [bT] (tf 11 0) [(0,aL A xs c),(6,i6 (i:Int)),(32,bT)] (fun w_=>[]) (fun w_=>trivial) ?_
   refine XA_done (by kernel_rfl) ?_
   refine ct (sg (xe0 1 [(2,bF)] ?_))
   refine nl (X_ret (rj [bF] hR_ ?_))
   rw[(canP_false xs).2 (fun hc_=>c24 (by have h_:=hc_.2.1 (i-1) (by omega); rw[show i-1+1=i from by omega]at h_; rw[hzi]; exact h_))]
   exact⟨rfl,(bt (bt HB b6) b23)⟩
  refine xr1 1 [(19,.eq bF)] [(19,bF)] [16,18] (dF c4) ?_
  refine nl (cf (X_exit (sg (xr0 3 [(7,i6 (xs.length:Int))] [6,19] ?_))))
  refine nl (sg (xr0 1 [(35,i6 (xs.length:Int))] [] ?_))
  by_cases c25:(xs.length:Int)=0
  ·refine xe1 21 [(36,.eq bT)] [(2,bT)] (bE c25) ?_
   refine nl (X_ret (rj [bT] hR_ ?_))
   have hzl:((xs.length:Int)-1).toNat=xs.length-1:=by omega
   rw[(canP_iff xs).2 ⟨hk0,fun q hq=>hch q (by omega),by unfold plainR; first|exact .inl (by omega)|exact .inr (by intro h_; omega)⟩]
   exact⟨rfl,HB⟩
  refine xr 5 [(36,.eq bF),(40,.eq (i6 ((xs.length:Int)-1)))] [(37,bF),(38,aL A xs c),(40,i6 ((xs.length:Int)-1))] [35] [_,_] ⟨bN c25,w6 ((xs.length:Int)-1),trivial⟩ ?_
  obtain⟨ad26,B29,c30,a27,hc28,l31,C32⟩:=Kd.atOp (Kd.C_below hx HB) (i:=(xs.length:Int)-1) (by omega) (by omega)
  replace hc28:CellsAt wl (ad26.add (((xs.length:Int)-1).toNat*7)) (o7L (xs.getD ((xs.length:Int)-1).toNat op0) (aL B29 (xs.getD ((xs.length:Int)-1).toNat op0).attrs c30)):=hc28
  replace l31:(xs.getD ((xs.length:Int)-1).toNat op0).attrs.length≤c30:=l31
  replace C32:kAttr.C wl B29 ((xs.getD ((xs.length:Int)-1).toNat op0).attrs.length) (xs.getD ((xs.length:Int)-1).toNat op0).attrs:=C32
  refine xe 3 [(41,.idx ad26),(43,.load (i6 ((xs.getD ((xs.length:Int)-1).toNat op0).kind)))] [(0,aL A xs c),(7,i6 (xs.length:Int)),(37,bF),(43,i6 ((xs.getD ((xs.length:Int)-1).toNat op0).kind))] [A=some ad26,(0:Int)≤(xs.length:Int)-1,(xs.length:Int)-1<(xs.length:Int),la 3 (ad26.add (((xs.length:Int)-1).toNat*7)) (i6 ((xs.getD ((xs.length:Int)-1).toNat op0).kind)) wl] ⟨a27,(by omega),(by omega),loads1 rfl (elem_cell hc28 0 _ rfl),trivial⟩ ?_
  by_cases c33:(xs.getD ((xs.length:Int)-1).toNat op0).kind=3
  ·refine xe 6 [(44,.eq bF),(49,.eq (i6 ((xs.length:Int)-1)))] [(46,bF),(47,aL A xs c),(49,i6 ((xs.length:Int)-1))] [_,_] ⟨nF c33,w6 ((xs.length:Int)-1),trivial⟩ ?_
   obtain⟨ad34,B37,c38,a35,hc36,l39,C40⟩:=Kd.atOp (Kd.C_below hx HB) (i:=(xs.length:Int)-1) (by omega) (by omega)
   replace hc36:CellsAt wl (ad34.add (((xs.length:Int)-1).toNat*7)) (o7L (xs.getD ((xs.length:Int)-1).toNat op0) (aL B37 (xs.getD ((xs.length:Int)-1).toNat op0).attrs c38)):=hc36
   replace l39:(xs.getD ((xs.length:Int)-1).toNat op0).attrs.length≤c38:=l39
   replace C40:kAttr.C wl B37 ((xs.getD ((xs.length:Int)-1).toNat op0).attrs.length) (xs.getD ((xs.length:Int)-1).toNat op0).attrs:=C40
   refine xr 4 [(50,.idx ad34),(52,.load (aL B37 (xs.getD ((xs.length:Int)-1).toNat op0).attrs c38))] [(53,i6 ((xs.getD ((xs.length:Int)-1).toNat op0).attrs.length:Int))] [47,49] [A=some ad34,(0:Int)≤(xs.length:Int)-1,(xs.length:Int)-1<(xs.length:Int),la 68 ((ad34.add (((xs.length:Int)-1).toNat*7)).add 6) (aL B37 (xs.getD ((xs.length:Int)-1).toNat op0).attrs c38) wl] ⟨a35,(by omega),(by omega),loads1 rfl (elem_cell hc36 6 _ rfl),trivial⟩ ?_
   by_cases c41:((xs.getD ((xs.length:Int)-1).toNat op0).attrs.length:Int)>0
   ·refine xe1 3 [(54,.eq bT)] [(2,bT)] (dT c41) ?_
    refine nl (X_ret (rj [bT] hR_ ?_))
    have hzl:((xs.length:Int)-1).toNat=xs.length-1:=by omega
    rw[hzl]at c33
    rw[hzl]at c41
    rw[(canP_iff xs).2 ⟨hk0,fun q hq=>hch q (by omega),by unfold plainR; first|exact .inl (by omega)|exact .inr (by intro h_; omega)⟩]
    exact⟨rfl,HB⟩
   refine xe1 3 [(54,.eq bF)] [(2,bF)] (dF c41) ?_
   refine nl (X_ret (rj [bF] hR_ ?_))
   have hzl:((xs.length:Int)-1).toNat=xs.length-1:=by omega
   rw[hzl]at c33
   rw[hzl]at c41
   rw[(canP_false xs).2 (fun hc_=>by have h_:=hc_.2.2; unfold plainR at h_; rcases h_ with h_|h_; (· omega); (· exact h_ ⟨by omega,by omega⟩))]
   exact⟨rfl,HB⟩
  refine xe1 13 [(44,.eq bT)] [(2,bT)] (nT c33) ?_
  refine nl (X_ret (rj [bT] hR_ ?_))
  have hzl:((xs.length:Int)-1).toNat=xs.length-1:=by omega
  rw[hzl]at c33
  rw[(canP_iff xs).2 ⟨hk0,fun q hq=>hch q (by omega),by unfold plainR; first|exact .inl (by omega)|exact .inr (by intro h_; omega)⟩]
  exact⟨rfl,HB⟩
 refine xr1 1 [(15,.eq bT)] [(15,bT)] [14] (nT c3) ?_
 refine nl (ct (sg (xe0 1 [(2,bF)] ?_)))
 refine nl (X_ret (rj [bF] hR_ ?_))
 rw[can_last (show ¬(lenP xs).2.2=0 by omega)]
 exact⟨rfl,b2⟩
end Go.Proofs.YtlnnjfdonilgmaaGreatDoor
