import Derived.Lib.SliceRun
import Derived.Test.YtlnnjfdonilgmaaGreatDoorB1
import Derived.Test.YtlnnjfdonilgmaaGreatDoorChg
import Derived.Test.YtlnnjfdonilgmaaGreatDoorAn2
import Derived.Test.YtlnnjfdonilgmaaGreatDoorWEqStruct
/- What values.Of, content.Of, slices.Clone, ops.piece answer. Conditions: sizes, the tables of utf8, the errors' variables. -/
set_option linter.unusedVariables false
set_option linter.unusedSimpArgs false
set_option maxRecDepth 100000
namespace Go.Proofs.YtlnnjfdonilgmaaGreatDoor
open Go Go.RowKit Go.Proofs.YtlnnjfdonilgmaaGreatDoorW.PrintWords RX
theorem ent122 :Ent Tryz.prog 122:=ent_of Tryz.func122 (by kernel_rfl) rfl
theorem ent113 :Ent Tryz.prog 113:=ent_of Tryz.func113 (by kernel_rfl) rfl
theorem ent110 :Ent Tryz.prog 110:=ent_of Tryz.func110 (by kernel_rfl) rfl
theorem ent111 :Ent Tryz.prog 111:=ent_of Tryz.func111 (by kernel_rfl) rfl
theorem ent94 :Ent Tryz.prog 94:=ent_of Tryz.func94 (by kernel_rfl) rfl
theorem ent96 :Ent Tryz.prog 96:=ent_of Tryz.func96 (by kernel_rfl) rfl
theorem ent93 :Ent Tryz.prog 93:=ent_of Tryz.func93 (by kernel_rfl) rfl
theorem ent74 :Ent Tryz.prog 74:=ent_of Tryz.func74 (by kernel_rfl) rfl
abbrev ErrsI (w:World)(es:List Addr):Prop:=ErrsOn [1,5,6,7,8,9,10] w es
abbrev ErrsO (w:World)(es:List Addr):Prop:=ErrsOn [1,5,6,7,8,9,10,11] w es
theorem ErrsI.a {w:World}{es:List Addr}(h:ErrsI w es):ErrsA w es:=h.sub (by decide)
theorem ErrsO.i {w:World}{es:List Addr}(h:ErrsO w es):ErrsI w es:=h.sub (by decide)
def ple (x y:Pl):Bool:=(x.1==y.1)&&((x.2.1==y.2.1)&&(x.2.2.toList==y.2.2.toList))
theorem ple_iff (x y:Pl):ple x y=true↔x=y:=by
 obtain⟨a,b,c⟩:=x
 obtain⟨a',b',c'⟩:=y
 simp only[ple,Bool.and_eq_true,beq_iff_eq,Prod.mk.injEq]
 exact⟨fun⟨h1,h2,h3⟩=>⟨h1,h2,bytes_ext h3⟩,fun⟨h1,h2,h3⟩=>⟨h1,h2,by rw[h3]⟩⟩
theorem plain_neq (x y:Pl)(w:World):(binOp .neq 67 (.agg #[i6 x.1,i6 x.2.1,sT x.2.2]) (.agg #[i6 y.1,i6 y.2.1,sT y.2.2])).run Tryz.prog w=.ok (.bool (!(ple x y))) w:=by
 have h:(Op.equalIn 10000 67 (.agg #[i6 x.1,i6 x.2.1,sT x.2.2]) (.agg #[i6 y.1,i6 y.2.1,sT y.2.2])).run Tryz.prog w=.ok (ple x y) w:=by
  refine eqA_of (d:=9999) Tryz.underlying67 (by kernel_rfl) ?_
  exact eqf_cons (a:=i6 x.1) (b:=i6 y.1) rfl (by kernel_rfl) (by kernel_rfl) (run_equalIn_int _ _ _ _ _ _ _ Tryz.underlying3) (eqf_cons (a:=i6 x.2.1) (b:=i6 y.2.1) rfl (by kernel_rfl) (by kernel_rfl) (run_equalIn_int _ _ _ _ _ _ _ Tryz.underlying2) (eqf_last (a:=sT x.2.2) (b:=sT y.2.2) rfl (by kernel_rfl) (by kernel_rfl) (run_equalIn_string _ _ _ _ _ Tryz.underlying9)))
 rw[run_neq_struct]
 show ((Op.equalIn 10000 67 _ _).run Tryz.prog w).andThen _=_
 rw[h]; rfl
theorem plain_eqb (x y:Pl)(w:World):(binOp .eql 67 (.agg #[i6 x.1,i6 x.2.1,sT x.2.2]) (.agg #[i6 y.1,i6 y.2.1,sT y.2.2])).run Tryz.prog w=.ok (.bool (ple x y)) w:=by
 have h:(Op.equalIn 10000 67 (.agg #[i6 x.1,i6 x.2.1,sT x.2.2]) (.agg #[i6 y.1,i6 y.2.1,sT y.2.2])).run Tryz.prog w=.ok (ple x y) w:=by
  refine eqA_of (d:=9999) Tryz.underlying67 (by kernel_rfl) ?_
  exact eqf_cons (a:=i6 x.1) (b:=i6 y.1) rfl (by kernel_rfl) (by kernel_rfl) (run_equalIn_int _ _ _ _ _ _ _ Tryz.underlying3) (eqf_cons (a:=i6 x.2.1) (b:=i6 y.2.1) rfl (by kernel_rfl) (by kernel_rfl) (run_equalIn_int _ _ _ _ _ _ _ Tryz.underlying2) (eqf_last (a:=sT x.2.2) (b:=sT y.2.2) rfl (by kernel_rfl) (by kernel_rfl) (run_equalIn_string _ _ _ _ _ Tryz.underlying9)))
 rw[run_eql_struct]
 show ((Op.equalIn 10000 67 _ _).run Tryz.prog w).andThen _=_
 rw[h]; rfl
theorem valV1 {v:Pl}(h:v.1=1):valV v=.iface 203 (.bool (decide (v.2.1=1))):=if_pos h
theorem valV2 {v:Pl}(h1:v.1≠1)(h:v.1=2):valV v=.iface 204 (i6 v.2.1):=by unfold valV; rw[if_neg h1,if_pos h]
theorem valV3 {v:Pl}(h1:v.1≠1)(h2:v.1≠2)(h:v.1=3):valV v=.iface 205 (sT v.2.2):=by unfold valV; rw[if_neg h1,if_neg h2,if_pos h]
theorem valV0 {v:Pl}(h1:v.1≠1)(h2:v.1≠2)(h3:v.1≠3):valV v=.iface 207 (.agg #[]):=by unfold valV; rw[if_neg h1,if_neg h2,if_neg h3]
theorem value_any (k n:Int)(t:ByteArray)(w:World):Rt 122 #[.agg #[i6 k,i6 n,sT t]] w (valV (k,n,t)):=by
 refine en Tryz.func122 rfl 23 [(0,.agg #[i6 k,i6 n,sT t])] (fun R_ hR_=>?_)
 refine sg (xwe 1 [] [(1,pw w.heap.size 0)] (w.alloc (.cells #[i6 k,i6 n,sT t] 67)) [] trivial ?_)
 obtain⟨w1,w5,b2,k3,z4⟩:=new_world w #[i6 k,i6 n,sT t] 67
 rw[w5]
 refine xr0 1 [] [] ?_
 refine nl (sq (sg (xr1 2 [(4,.load (i6 k))] [(4,i6 k)] [] (lc 3 k3 0) ?_)))
 refine nl (bk (sq (X_region ?_)))
 by_cases c6:k=1
 ·refine xr1 2 [(6,.eq bT)] [(5,bT)] [] (bE c6) ?_
  refine nl (ct (sg (xe1 2 [(8,.load (i6 n))] [(8,i6 n)] (lc 2 k3 1) ?_)))
  by_cases c7:n=1
  ·refine xe1 3 [(9,.eq bT)] [(2,.iface 203 bT)] (bE c7) ?_
   refine nl (X_ret (rj [.iface 203 bT] hR_ ?_))
   rw[show valV (k,n,t)=.iface 203 bT from by unfold valV; simp_all]
   exact⟨rfl,b2⟩
  refine xe1 3 [(9,.eq bF)] [(2,.iface 203 bF)] (bN c7) ?_
  refine nl (X_ret (rj [.iface 203 bF] hR_ ?_))
  rw[show valV (k,n,t)=.iface 203 bF from by unfold valV; simp_all]
  exact⟨rfl,b2⟩
 refine xr1 2 [(6,.eq bF)] [(5,bF)] [] (bN c6) ?_
 refine nl (cf (sq (X_region ?_)))
 by_cases c8:k=2
 ·refine xr1 2 [(12,.eq bT)] [(11,bT)] [5] (bE c8) ?_
  refine nl (ct (sg (xe1 4 [(14,.load (i6 n))] [(2,.iface 204 (i6 n))] (lc 2 k3 1) ?_)))
  refine nl (X_ret (rj [.iface 204 (i6 n)] hR_ ?_))
  rw[show valV (k,n,t)=.iface 204 (i6 n)from by unfold valV; simp_all]
  exact⟨rfl,b2⟩
 refine xr1 2 [(12,.eq bF)] [(11,bF)] [5] (bN c8) ?_
 refine nl (cf (sq (X_region ?_)))
 by_cases c9:k=3
 ·refine xr1 2 [(17,.eq bT)] [(16,bT)] [4,11] (bE c9) ?_
  refine nl (ct (sg (xe1 4 [(19,.load (sT t))] [(2,.iface 205 (sT t))] (lc 9 k3 2) ?_)))
  refine nl (X_ret (rj [.iface 205 (sT t)] hR_ ?_))
  rw[show valV (k,n,t)=.iface 205 (sT t)from by unfold valV; simp_all]
  exact⟨rfl,b2⟩
 refine xr1 2 [(17,.eq bF)] [(16,bF)] [4,11] (bN c9) ?_
 refine nl (cf (sk (sg (xe0 3 [(2,.iface 207 (.agg #[]))] ?_))))
 refine nl (X_ret (rj [.iface 207 (.agg #[])] hR_ ?_))
 rw[show valV (k,n,t)=.iface 207 (.agg #[])from by unfold valV; simp_all]
 exact⟨rfl,b2⟩
theorem vof_any (k n:Int)(t:ByteArray)(w:World)(hs:t.size≤9223372036854775807)(hT:Tabs w)(es:List Addr)(hE:ErrsA w es):Rt 113 #[.agg #[i6 k,i6 n,sT t]] w (.tuple #[if plainErr k n t=0 then valV (k,n,t)else .nilIface,errV es (plainErr k n t)]):=by
 refine en Tryz.func113 rfl 12 [(0,.agg #[i6 k,i6 n,sT t])] (fun R_ hR_=>?_)
 refine sg (xwe 1 [] [(1,pw w.heap.size 0)] (w.alloc (.cells #[i6 k,i6 n,sT t] 67)) [] trivial ?_)
 obtain⟨w1,w5,b2,k3,z4⟩:=new_world w #[i6 k,i6 n,sT t] 67
 rw[w5]
 refine xr0 2 [] [] ?_
 refine nl (sq (sg (xr 1 [(5,.load (.agg #[i6 k,i6 n,sT t]))] [(5,.agg #[i6 k,i6 n,sT t])] [] [la 67 (⟨w.heap.size,0,none⟩) (.agg #[i6 k,i6 n,sT t]) w1] ⟨loadsB rfl rfl k3 0 ⟨by kernel_rfl,by kernel_rfl⟩,trivial⟩ ?_)))
 refine xc 120 ent120 [.agg #[i6 k,i6 n,sT t]] (vcheck_any k n t _ (by omega) (hT.below b2) es (hE.below b2)) ?_
 rintro e w_6 ⟨rfl,b7⟩; refine⟨_,rfl,?_⟩
 refine xr0 1 [(4,errV es (plainErr k n t))] [5,6] ?_
 refine nl (sg (xr0 1 [(7,errV es (plainErr k n t))] [] ?_))
 by_cases c8:(plainErr k n t)=0
 ·rw[show errV es (plainErr k n t)=.nilIface from by rw[c8]; rfl]
  refine xr0 1 [(4,.nilIface),(8,bF)] [7] ?_
  refine nl (cf (sk (sg (xe 1 [(10,.load (.agg #[i6 k,i6 n,sT t]))] [(10,.agg #[i6 k,i6 n,sT t])] [la 67 (⟨w.heap.size,0,none⟩) (.agg #[i6 k,i6 n,sT t]) w_6] ⟨loadsB rfl rfl (Blk.below k3 b7) 0 ⟨by kernel_rfl,by kernel_rfl⟩,trivial⟩ ?_))))
  refine xc 122 ent122 [.agg #[i6 k,i6 n,sT t]] (value_any k n t _) ?_
  rintro e w9 ⟨rfl,b10⟩; refine⟨_,rfl,?_⟩
  refine xe0 2 [(2,valV (k,n,t)),(3,.nilIface)] ?_
  refine nl (X_ret (rj [valV (k,n,t),.nilIface] hR_ ?_))
  rw[if_pos c8,c8]
  exact⟨rfl,(bt (bt b2 b7) b10)⟩
 rw[errV_pos es (plainErr k n t) (Nat.pos_of_ne_zero c8)]
 refine xr0 1 [(4,.iface 208 (.pointer (some (errAt es (plainErr k n t))))),(8,bT)] [7] ?_
 refine nl (ct (sg (xe0 3 [(2,.nilIface),(3,.iface 208 (.pointer (some (errAt es (plainErr k n t)))))] ?_)))
 refine nl (X_ret (rj [.nilIface,.iface 208 (.pointer (some (errAt es (plainErr k n t))))] hR_ ?_))
 rw[if_neg c8,errV_pos es _ (Nat.pos_of_ne_zero c8)]
 exact⟨rfl,(bt b2 b7)⟩
theorem opSz.a {o:OpA}(h:opSz o):∀ i,i<o.attrs.length→(o.attrs.getD i at0).1.size≤9223372036854775807∧(o.attrs.getD i at0).2.2.2.size≤9223372036854775807:=fun i hi=>by have:=h.2.2.2 i hi; omega
set_option maxHeartbeats 2000000 in
theorem refuse_any (o:OpA)(A:Option Addr)(c:Nat)(w:World)(hA:kAttr.C w A o.attrs.length o.attrs)(hz:opSz o)(hT:Tabs w)(es:List Addr)(hE:ErrsI w es):Rt 110 #[.agg (o7A o (.slice A o.attrs.length c))] w (errV es (refuseP o)):=by
 have hz1:=hz.1
 have hz2:=hz.2.1
 refine en Tryz.func110 rfl 72 [(0,.agg (o7A o (aL A o.attrs c)))] (fun R_ hR_=>?_)
 refine sg (xwe 1 [] [(1,pw w.heap.size 0)] (w.alloc (.cells (o7A o (aL A o.attrs c)) 70)) [] trivial ?_)
 obtain⟨w1,w5,b2,k3,z4⟩:=new_world w (o7A o (aL A o.attrs c)) 70
 rw[w5]
 refine xr0 1 [] [] ?_
 refine nl (sq (X_still (by kernel_rfl) (by kernel_rfl) (fun wd6 b7 h8=>?_)))
 refine xsC 2 [(9,.load (i6 o.kind))] [(9,i6 o.kind)] [] [_] ⟨lc 3 (Blk.below k3 b7) 0,trivial⟩ ?_
 by_cases c9:o.kind=1
 ·refine xsC 3 [(10,.eq bT),(12,.load (i6 o.kind))] [(10,bT),(12,i6 o.kind)] [9] [_,_] ⟨bE c9,lc 3 (Blk.below k3 b7) 0,trivial⟩ ?_
  by_cases c10:o.kind=2
  ·refine xsC 3 [(13,.eq bT)] [(3,bT),(4,bT)] [10,12] [_] ⟨bE c10,trivial⟩ ?_
   refine XS_nil ?_
   refine sq (bk (sg (xr0 7 [(14,bF)] [] ?_)))
   refine nl (cf (sq (sg (xe1 2 [(24,.load (i6 o.count))] [(1,pw w.heap.size 0),(3,bT),(4,bT),(24,i6 o.count)] (lc 3 (Blk.below k3 b7) 5) ?_))))
   by_cases c11:o.count=0
   ·refine xr1 2 [(25,.eq bF)] [(22,bF)] [24] (nF c11) ?_
    refine nl (cf (rg (xr1 4 [(29,.load (sT o.text))] [(27,bT),(29,sT o.text)] [3,22] (lc 9 (Blk.below k3 b7) 1) ?_)))
    by_cases c12:o.text=(⟨#[]⟩:ByteArray)
    ·refine xr 9 [(30,.eq bT)] [(22,bT)] [27,29] [Value.bool (o.text.toList==(⟨#[]⟩:ByteArray).toList)=bT] ⟨congrArg Value.bool (strEqT (c12)),trivial⟩ ?_
     refine nl (ct (sg (xe 2 [(38,.load (.iface 208 (.pointer (some (errAt es 9)))))] [(2,.iface 208 (.pointer (some (errAt es 9))))] [la 45 (⟨11,0,none⟩) (.iface 208 (.pointer (some (errAt es 9)))) wd6] ⟨loads1 rfl (((bt b2 b7).cell (World.block_lt_of_cell? _ _ (hE.load 9 11 (by decide) (by decide) rfl))).trans (hE.load 9 11 (by decide) (by decide) rfl)),trivial⟩ ?_)))
     refine nl (X_ret (rj [.iface 208 (.pointer (some (errAt es 9)))] hR_ ?_))
     rw[show refuseP o=9 from by unfold refuseP; simp_all<;>omega]
     exact⟨rfl,(bt b2 b7)⟩
    refine xr 5 [(30,.eq bF),(33,.load (.agg #[i6 o.vk,i6 o.vn,sT o.vt]))] [(31,bF),(33,.agg #[i6 o.vk,i6 o.vn,sT o.vt]),(34,.agg #[i6 0,i6 0,s0])] [29] [Value.bool (o.text.toList==(⟨#[]⟩:ByteArray).toList)=bF,la 67 (⟨w.heap.size,2,none⟩) (.agg #[i6 o.vk,i6 o.vn,sT o.vt]) wd6] ⟨congrArg Value.bool (strEqF (c12)),loadsB rfl rfl (Blk.below k3 b7) 2 ⟨by kernel_rfl,by kernel_rfl⟩,trivial⟩ ?_
    by_cases c13:(o.vk,o.vn,o.vt)=pl0
    ·refine xr 4 [(35,.as bF)] [(22,bF)] [27,31,33,34] [RunsAs Tryz.prog [(33,.agg #[i6 o.vk,i6 o.vn,sT o.vt]),(34,.agg #[i6 0,i6 0,s0])] (Go.Op.binOp Go.BinOp.neq 67 (Go.Operand.tmp 33) (Go.Operand.tmp 34) 67) 4 bF wd6] ⟨runs_bin rfl rfl (run_eqGuard_agg _ _ _ _ _ _ _ (by kernel_rfl)) (by have h:=plain_neq (o.vk,o.vn,o.vt) pl0 wd6; rw[show ple (o.vk,o.vn,o.vt) pl0=true from(ple_iff _ _).2 c13]at h; exact h),trivial⟩ ?_
     refine nl (cf (sg (xr 9 [(43,.load (sT o.text)),(44,.eq bF),(47,.load (sT o.text))] [(41,bT),(45,bF),(48,i6 (o.text.size:Int))] [22] [_,Value.bool (o.text.toList==(⟨#[]⟩:ByteArray).toList)=bF,_] ⟨lc 9 (Blk.below k3 b7) 1,congrArg Value.bool (strEqF (c12)),lc 9 (Blk.below k3 b7) 1,trivial⟩ ?_)))
     by_cases c14:(o.text.size:Int)>64
     ·refine xe1 4 [(49,.eq bT)] [(1,pw w.heap.size 0),(4,bT),(39,bT)] (dT c14) ?_
      refine nl (ct (sg (xe 2 [(52,.load (.iface 208 (.pointer (some (errAt es 6)))))] [(2,.iface 208 (.pointer (some (errAt es 6))))] [la 45 (⟨1,0,none⟩) (.iface 208 (.pointer (some (errAt es 6)))) wd6] ⟨loads1 rfl (((bt b2 b7).cell (World.block_lt_of_cell? _ _ (hE.load 6 1 (by decide) (by decide) rfl))).trans (hE.load 6 1 (by decide) (by decide) rfl)),trivial⟩ ?_)))
      refine nl (X_ret (rj [.iface 208 (.pointer (some (errAt es 6)))] hR_ ?_))
      rw[show refuseP o=6 from by unfold refuseP; simp_all<;>omega]
      exact⟨rfl,(bt b2 b7)⟩
     refine xe1 4 [(49,.eq bF)] [(1,pw w.heap.size 0),(4,bT),(39,bF)] (dF c14) ?_
     refine nl (cf (sk (sq (sg (xr1 2 [(55,.load (sT o.text))] [(55,sT o.text)] [39] (lc 9 (Blk.below k3 b7) 1) ?_)))))
     refine xc 49 ent49 [sT o.text] (scheck_any o.text _ (by omega) (hT.below (bt b2 b7)) es (hE.a.below (bt b2 b7))) ?_
     rintro e w15 ⟨rfl,b16⟩; refine⟨_,rfl,?_⟩
     refine xr0 5 [(6,errV es (if (uchk o.text).2 then 0 else 1))] [55,56] ?_
     refine nl (sg (xr0 1 [(59,errV es (if (uchk o.text).2 then 0 else 1))] [6] ?_))
     by_cases c17:(if (uchk o.text).2 then 0 else 1)=0
     ·rw[show errV es (if (uchk o.text).2 then 0 else 1)=.nilIface from by rw[c17]; rfl]
      refine xr0 1 [(60,bF)] [59] ?_
      refine nl (cf (sk (sq (sg (xr0 1 [(62,bT)] [4,60] ?_)))))
      refine nl (ct (sg (xe 2 [(64,.load (.agg #[i6 o.vk,i6 o.vn,sT o.vt]))] [(1,pw w.heap.size 0),(64,.agg #[i6 o.vk,i6 o.vn,sT o.vt])] [la 67 (⟨w.heap.size,2,none⟩) (.agg #[i6 o.vk,i6 o.vn,sT o.vt]) w15] ⟨loadsB rfl rfl (Blk.below k3 (bt b7 b16)) 2 ⟨by kernel_rfl,by kernel_rfl⟩,trivial⟩ ?_)))
      refine xc 120 ent120 [.agg #[i6 o.vk,i6 o.vn,sT o.vt]] (vcheck_any o.vk o.vn o.vt _ (by omega) (hT.below (bt (bt b2 b7) b16)) es (hE.a.below (bt (bt b2 b7) b16))) ?_
      rintro e w18 ⟨rfl,b19⟩; refine⟨_,rfl,?_⟩
      refine xr0 1 [(7,errV es (plainErr o.vk o.vn o.vt))] [64,65] ?_
      refine nl (sg (xr0 1 [(66,errV es (plainErr o.vk o.vn o.vt))] [] ?_))
      by_cases c20:(plainErr o.vk o.vn o.vt)=0
      ·rw[show errV es (plainErr o.vk o.vn o.vt)=.nilIface from by rw[c20]; rfl]
       refine xr0 1 [(7,.nilIface),(67,bF)] [66] ?_
       refine nl (cf (sk (sg (xe1 2 [(70,.load (aL A o.attrs c))] [(70,aL A o.attrs c)] (lc 68 (Blk.below k3 (bt (bt b7 b16) b19)) 6) ?_))))
       refine xc 95 ent95 [.slice A o.attrs.length c,bF] (acheck_any _ _ o.attrs false _ (Kd.C_below hA (bt (bt (bt b2 b7) b16) b19)) hz.a (hT.below (bt (bt (bt b2 b7) b16) b19)) es (hE.a.below (bt (bt (bt b2 b7) b16) b19))) ?_
       rintro e w21 ⟨rfl,b22⟩; refine⟨_,rfl,?_⟩
       refine xe0 1 [(2,errV es (chkA false o.attrs))] ?_
       refine nl (X_ret (rj [errV es (chkA false o.attrs)] hR_ ?_))
       have B23:Below w.heap.size w w21:=(bt (bt (bt (bt b2 b7) b16) b19) b22)
       rw[show refuseP o=(chkA false o.attrs)from by unfold refuseP; simp_all<;>omega]
       exact⟨rfl,B23⟩
      rw[errV_pos es (plainErr o.vk o.vn o.vt) (Nat.pos_of_ne_zero c20)]
      refine xr0 1 [(7,.iface 208 (.pointer (some (errAt es (plainErr o.vk o.vn o.vt))))),(67,bT)] [66] ?_
      refine nl (ct (sg (xe0 2 [(2,.iface 208 (.pointer (some (errAt es (plainErr o.vk o.vn o.vt)))))] ?_)))
      refine nl (X_ret (rj [.iface 208 (.pointer (some (errAt es (plainErr o.vk o.vn o.vt))))] hR_ ?_))
      rw[show refuseP o=(plainErr o.vk o.vn o.vt)from by unfold refuseP; simp_all<;>omega,errV_pos es _ (Nat.pos_of_ne_zero c20)]
      exact⟨rfl,(bt (bt (bt b2 b7) b16) b19)⟩
     rw[errV_pos es (if (uchk o.text).2 then 0 else 1) (Nat.pos_of_ne_zero c17)]
     refine xr0 1 [(60,bT)] [59] ?_
     refine nl (ct (sg (xe 2 [(61,.load (.iface 208 (.pointer (some (errAt es 1)))))] [(2,.iface 208 (.pointer (some (errAt es 1))))] [la 45 (⟨4,0,none⟩) (.iface 208 (.pointer (some (errAt es 1)))) w15] ⟨loads1 rfl (((bt (bt b2 b7) b16).cell (World.block_lt_of_cell? _ _ (hE.load 1 4 (by decide) (by decide) rfl))).trans (hE.load 1 4 (by decide) (by decide) rfl)),trivial⟩ ?_)))
     refine nl (X_ret (rj [.iface 208 (.pointer (some (errAt es 1)))] hR_ ?_))
     rw[show refuseP o=1 from by unfold refuseP; simp_all<;>omega]
     exact⟨rfl,(bt (bt b2 b7) b16)⟩
    refine xr 4 [(35,.as bT)] [(22,bT)] [27,31,33,34] [RunsAs Tryz.prog [(33,.agg #[i6 o.vk,i6 o.vn,sT o.vt]),(34,.agg #[i6 0,i6 0,s0])] (Go.Op.binOp Go.BinOp.neq 67 (Go.Operand.tmp 33) (Go.Operand.tmp 34) 67) 4 bT wd6] ⟨runs_bin rfl rfl (run_eqGuard_agg _ _ _ _ _ _ _ (by kernel_rfl)) (by have h:=plain_neq (o.vk,o.vn,o.vt) pl0 wd6; rw[show ple (o.vk,o.vn,o.vt) pl0=false from Bool.eq_false_iff.2 (fun k=>c13 ((ple_iff _ _).1 k))]at h; exact h),trivial⟩ ?_
    refine nl (ct (sg (xe 2 [(38,.load (.iface 208 (.pointer (some (errAt es 9)))))] [(2,.iface 208 (.pointer (some (errAt es 9))))] [la 45 (⟨11,0,none⟩) (.iface 208 (.pointer (some (errAt es 9)))) wd6] ⟨loads1 rfl (((bt b2 b7).cell (World.block_lt_of_cell? _ _ (hE.load 9 11 (by decide) (by decide) rfl))).trans (hE.load 9 11 (by decide) (by decide) rfl)),trivial⟩ ?_)))
    refine nl (X_ret (rj [.iface 208 (.pointer (some (errAt es 9)))] hR_ ?_))
    rw[show refuseP o=9 from by unfold refuseP; simp_all<;>omega]
    exact⟨rfl,(bt b2 b7)⟩
   refine xr1 2 [(25,.eq bT)] [(22,bT)] [24] (nT c11) ?_
   refine nl (ct (sk (ct (sg (xe 2 [(38,.load (.iface 208 (.pointer (some (errAt es 9)))))] [(2,.iface 208 (.pointer (some (errAt es 9))))] [la 45 (⟨11,0,none⟩) (.iface 208 (.pointer (some (errAt es 9)))) wd6] ⟨loads1 rfl (((bt b2 b7).cell (World.block_lt_of_cell? _ _ (hE.load 9 11 (by decide) (by decide) rfl))).trans (hE.load 9 11 (by decide) (by decide) rfl)),trivial⟩ ?_)))))
   refine nl (X_ret (rj [.iface 208 (.pointer (some (errAt es 9)))] hR_ ?_))
   rw[show refuseP o=9 from by unfold refuseP; simp_all<;>omega]
   exact⟨rfl,(bt b2 b7)⟩
  refine xsC 3 [(13,.eq bF)] [(3,bT),(4,bF)] [10,12] [_] ⟨bN c10,trivial⟩ ?_
  refine XS_nil ?_
  refine sq (bk (sg (xr0 7 [(14,bF)] [] ?_)))
  refine nl (cf (sq (sg (xe1 2 [(24,.load (i6 o.count))] [(1,pw w.heap.size 0),(3,bT),(4,bF),(24,i6 o.count)] (lc 3 (Blk.below k3 b7) 5) ?_))))
  by_cases c24:o.count=0
  ·refine xr1 2 [(25,.eq bF)] [(22,bF)] [24] (nF c24) ?_
   refine nl (cf (rg (xr1 4 [(29,.load (sT o.text))] [(27,bT),(29,sT o.text)] [3,22] (lc 9 (Blk.below k3 b7) 1) ?_)))
   by_cases c25:o.text=(⟨#[]⟩:ByteArray)
   ·refine xr 9 [(30,.eq bT)] [(22,bT)] [27,29] [Value.bool (o.text.toList==(⟨#[]⟩:ByteArray).toList)=bT] ⟨congrArg Value.bool (strEqT (c25)),trivial⟩ ?_
    refine nl (ct (sg (xe 2 [(38,.load (.iface 208 (.pointer (some (errAt es 9)))))] [(2,.iface 208 (.pointer (some (errAt es 9))))] [la 45 (⟨11,0,none⟩) (.iface 208 (.pointer (some (errAt es 9)))) wd6] ⟨loads1 rfl (((bt b2 b7).cell (World.block_lt_of_cell? _ _ (hE.load 9 11 (by decide) (by decide) rfl))).trans (hE.load 9 11 (by decide) (by decide) rfl)),trivial⟩ ?_)))
    refine nl (X_ret (rj [.iface 208 (.pointer (some (errAt es 9)))] hR_ ?_))
    rw[show refuseP o=9 from by unfold refuseP; simp_all<;>omega]
    exact⟨rfl,(bt b2 b7)⟩
   refine xr 5 [(30,.eq bF),(33,.load (.agg #[i6 o.vk,i6 o.vn,sT o.vt]))] [(31,bF),(33,.agg #[i6 o.vk,i6 o.vn,sT o.vt]),(34,.agg #[i6 0,i6 0,s0])] [29] [Value.bool (o.text.toList==(⟨#[]⟩:ByteArray).toList)=bF,la 67 (⟨w.heap.size,2,none⟩) (.agg #[i6 o.vk,i6 o.vn,sT o.vt]) wd6] ⟨congrArg Value.bool (strEqF (c25)),loadsB rfl rfl (Blk.below k3 b7) 2 ⟨by kernel_rfl,by kernel_rfl⟩,trivial⟩ ?_
   by_cases c26:(o.vk,o.vn,o.vt)=pl0
   ·refine xr 4 [(35,.as bF)] [(22,bF)] [27,31,33,34] [RunsAs Tryz.prog [(33,.agg #[i6 o.vk,i6 o.vn,sT o.vt]),(34,.agg #[i6 0,i6 0,s0])] (Go.Op.binOp Go.BinOp.neq 67 (Go.Operand.tmp 33) (Go.Operand.tmp 34) 67) 4 bF wd6] ⟨runs_bin rfl rfl (run_eqGuard_agg _ _ _ _ _ _ _ (by kernel_rfl)) (by have h:=plain_neq (o.vk,o.vn,o.vt) pl0 wd6; rw[show ple (o.vk,o.vn,o.vt) pl0=true from(ple_iff _ _).2 c26]at h; exact h),trivial⟩ ?_
    refine nl (cf (sg (xr0 13 [(39,bF)] [22] ?_)))
    refine nl (cf (sk (sq (sg (xe1 2 [(55,.load (sT o.text))] [(1,pw w.heap.size 0),(4,bF),(55,sT o.text)] (lc 9 (Blk.below k3 b7) 1) ?_)))))
    refine xc 49 ent49 [sT o.text] (scheck_any o.text _ (by omega) (hT.below (bt b2 b7)) es (hE.a.below (bt b2 b7))) ?_
    rintro e w27 ⟨rfl,b28⟩; refine⟨_,rfl,?_⟩
    refine xr0 5 [(6,errV es (if (uchk o.text).2 then 0 else 1))] [55,56] ?_
    refine nl (sg (xr0 1 [(59,errV es (if (uchk o.text).2 then 0 else 1))] [6] ?_))
    by_cases c29:(if (uchk o.text).2 then 0 else 1)=0
    ·rw[show errV es (if (uchk o.text).2 then 0 else 1)=.nilIface from by rw[c29]; rfl]
     refine xr0 1 [(60,bF)] [59] ?_
     refine nl (cf (sk (sq (sg (xr0 1 [(62,bF)] [4,60] ?_)))))
     refine nl (cf (sk (sg (xe1 2 [(70,.load (aL A o.attrs c))] [(70,aL A o.attrs c)] (lc 68 (Blk.below k3 (bt b7 b28)) 6) ?_))))
     refine xc 95 ent95 [.slice A o.attrs.length c,bF] (acheck_any _ _ o.attrs false _ (Kd.C_below hA (bt (bt b2 b7) b28)) hz.a (hT.below (bt (bt b2 b7) b28)) es (hE.a.below (bt (bt b2 b7) b28))) ?_
     rintro e w30 ⟨rfl,b31⟩; refine⟨_,rfl,?_⟩
     refine xe0 1 [(2,errV es (chkA false o.attrs))] ?_
     refine nl (X_ret (rj [errV es (chkA false o.attrs)] hR_ ?_))
     rw[show refuseP o=(chkA false o.attrs)from by unfold refuseP; simp_all<;>omega]
     exact⟨rfl,(bt (bt (bt b2 b7) b28) b31)⟩
    rw[errV_pos es (if (uchk o.text).2 then 0 else 1) (Nat.pos_of_ne_zero c29)]
    refine xr0 1 [(60,bT)] [59] ?_
    refine nl (ct (sg (xe 2 [(61,.load (.iface 208 (.pointer (some (errAt es 1)))))] [(2,.iface 208 (.pointer (some (errAt es 1))))] [la 45 (⟨4,0,none⟩) (.iface 208 (.pointer (some (errAt es 1)))) w27] ⟨loads1 rfl (((bt (bt b2 b7) b28).cell (World.block_lt_of_cell? _ _ (hE.load 1 4 (by decide) (by decide) rfl))).trans (hE.load 1 4 (by decide) (by decide) rfl)),trivial⟩ ?_)))
    refine nl (X_ret (rj [.iface 208 (.pointer (some (errAt es 1)))] hR_ ?_))
    rw[show refuseP o=1 from by unfold refuseP; simp_all<;>omega]
    exact⟨rfl,(bt (bt b2 b7) b28)⟩
   refine xr 4 [(35,.as bT)] [(22,bT)] [27,31,33,34] [RunsAs Tryz.prog [(33,.agg #[i6 o.vk,i6 o.vn,sT o.vt]),(34,.agg #[i6 0,i6 0,s0])] (Go.Op.binOp Go.BinOp.neq 67 (Go.Operand.tmp 33) (Go.Operand.tmp 34) 67) 4 bT wd6] ⟨runs_bin rfl rfl (run_eqGuard_agg _ _ _ _ _ _ _ (by kernel_rfl)) (by have h:=plain_neq (o.vk,o.vn,o.vt) pl0 wd6; rw[show ple (o.vk,o.vn,o.vt) pl0=false from Bool.eq_false_iff.2 (fun k=>c26 ((ple_iff _ _).1 k))]at h; exact h),trivial⟩ ?_
   refine nl (ct (sg (xe 2 [(38,.load (.iface 208 (.pointer (some (errAt es 9)))))] [(2,.iface 208 (.pointer (some (errAt es 9))))] [la 45 (⟨11,0,none⟩) (.iface 208 (.pointer (some (errAt es 9)))) wd6] ⟨loads1 rfl (((bt b2 b7).cell (World.block_lt_of_cell? _ _ (hE.load 9 11 (by decide) (by decide) rfl))).trans (hE.load 9 11 (by decide) (by decide) rfl)),trivial⟩ ?_)))
   refine nl (X_ret (rj [.iface 208 (.pointer (some (errAt es 9)))] hR_ ?_))
   rw[show refuseP o=9 from by unfold refuseP; simp_all<;>omega]
   exact⟨rfl,(bt b2 b7)⟩
  refine xr1 2 [(25,.eq bT)] [(22,bT)] [24] (nT c24) ?_
  refine nl (ct (sk (ct (sg (xe 2 [(38,.load (.iface 208 (.pointer (some (errAt es 9)))))] [(2,.iface 208 (.pointer (some (errAt es 9))))] [la 45 (⟨11,0,none⟩) (.iface 208 (.pointer (some (errAt es 9)))) wd6] ⟨loads1 rfl (((bt b2 b7).cell (World.block_lt_of_cell? _ _ (hE.load 9 11 (by decide) (by decide) rfl))).trans (hE.load 9 11 (by decide) (by decide) rfl)),trivial⟩ ?_)))))
  refine nl (X_ret (rj [.iface 208 (.pointer (some (errAt es 9)))] hR_ ?_))
  rw[show refuseP o=9 from by unfold refuseP; simp_all<;>omega]
  exact⟨rfl,(bt b2 b7)⟩
 refine xsC 3 [(10,.eq bF),(12,.load (i6 o.kind))] [(10,bF),(12,i6 o.kind)] [9] [_,_] ⟨bN c9,lc 3 (Blk.below k3 b7) 0,trivial⟩ ?_
 by_cases c32:o.kind=2
 ·refine xsC 3 [(13,.eq bT)] [(3,bF),(4,bT)] [10,12] [_] ⟨bE c32,trivial⟩ ?_
  refine XS_nil ?_
  refine sq (bk (sg (xr0 7 [(14,bF)] [] ?_)))
  refine nl (cf (sq (sg (xe1 2 [(24,.load (i6 o.count))] [(1,pw w.heap.size 0),(3,bF),(4,bT),(24,i6 o.count)] (lc 3 (Blk.below k3 b7) 5) ?_))))
  by_cases c33:o.count=0
  ·refine xr1 2 [(25,.eq bF)] [(22,bF)] [24] (nF c33) ?_
   refine nl (cf (rg (xr0 13 [] [3] ?_)))
   refine nl (cf (sg (xr1 4 [(43,.load (sT o.text))] [(41,bT),(43,sT o.text)] [22] (lc 9 (Blk.below k3 b7) 1) ?_)))
   by_cases c34:o.text=(⟨#[]⟩:ByteArray)
   ·refine xr 9 [(44,.eq bT)] [(39,bT)] [41,43] [Value.bool (o.text.toList==(⟨#[]⟩:ByteArray).toList)=bT] ⟨congrArg Value.bool (strEqT (c34)),trivial⟩ ?_
    refine nl (ct (sg (xe 2 [(52,.load (.iface 208 (.pointer (some (errAt es 6)))))] [(2,.iface 208 (.pointer (some (errAt es 6))))] [la 45 (⟨1,0,none⟩) (.iface 208 (.pointer (some (errAt es 6)))) wd6] ⟨loads1 rfl (((bt b2 b7).cell (World.block_lt_of_cell? _ _ (hE.load 6 1 (by decide) (by decide) rfl))).trans (hE.load 6 1 (by decide) (by decide) rfl)),trivial⟩ ?_)))
    refine nl (X_ret (rj [.iface 208 (.pointer (some (errAt es 6)))] hR_ ?_))
    rw[show refuseP o=6 from by unfold refuseP; simp_all<;>omega]
    exact⟨rfl,(bt b2 b7)⟩
   refine xr 5 [(44,.eq bF),(47,.load (sT o.text))] [(45,bF),(48,i6 (o.text.size:Int))] [43] [Value.bool (o.text.toList==(⟨#[]⟩:ByteArray).toList)=bF,_] ⟨congrArg Value.bool (strEqF (c34)),lc 9 (Blk.below k3 b7) 1,trivial⟩ ?_
   by_cases c35:(o.text.size:Int)>64
   ·refine xr1 4 [(49,.eq bT)] [(39,bT)] [41,45,48] (dT c35) ?_
    refine nl (ct (sg (xe 2 [(52,.load (.iface 208 (.pointer (some (errAt es 6)))))] [(2,.iface 208 (.pointer (some (errAt es 6))))] [la 45 (⟨1,0,none⟩) (.iface 208 (.pointer (some (errAt es 6)))) wd6] ⟨loads1 rfl (((bt b2 b7).cell (World.block_lt_of_cell? _ _ (hE.load 6 1 (by decide) (by decide) rfl))).trans (hE.load 6 1 (by decide) (by decide) rfl)),trivial⟩ ?_)))
    refine nl (X_ret (rj [.iface 208 (.pointer (some (errAt es 6)))] hR_ ?_))
    rw[show refuseP o=6 from by unfold refuseP; simp_all<;>omega]
    exact⟨rfl,(bt b2 b7)⟩
   refine xr1 4 [(49,.eq bF)] [(39,bF)] [41,45,48] (dF c35) ?_
   refine nl (cf (sk (sq (sg (xe1 2 [(55,.load (sT o.text))] [(1,pw w.heap.size 0),(4,bT),(55,sT o.text)] (lc 9 (Blk.below k3 b7) 1) ?_)))))
   refine xc 49 ent49 [sT o.text] (scheck_any o.text _ (by omega) (hT.below (bt b2 b7)) es (hE.a.below (bt b2 b7))) ?_
   rintro e w36 ⟨rfl,b37⟩; refine⟨_,rfl,?_⟩
   refine xr0 5 [(6,errV es (if (uchk o.text).2 then 0 else 1))] [55,56] ?_
   refine nl (sg (xr0 1 [(59,errV es (if (uchk o.text).2 then 0 else 1))] [6] ?_))
   by_cases c38:(if (uchk o.text).2 then 0 else 1)=0
   ·rw[show errV es (if (uchk o.text).2 then 0 else 1)=.nilIface from by rw[c38]; rfl]
    refine xr0 1 [(60,bF)] [59] ?_
    refine nl (cf (sk (sq (sg (xr0 1 [(62,bT)] [4,60] ?_)))))
    refine nl (ct (sg (xr 2 [(64,.load (.agg #[i6 o.vk,i6 o.vn,sT o.vt]))] [(64,.agg #[i6 o.vk,i6 o.vn,sT o.vt])] [62] [la 67 (⟨w.heap.size,2,none⟩) (.agg #[i6 o.vk,i6 o.vn,sT o.vt]) w36] ⟨loadsB rfl rfl (Blk.below k3 (bt b7 b37)) 2 ⟨by kernel_rfl,by kernel_rfl⟩,trivial⟩ ?_)))
    refine xc 120 ent120 [.agg #[i6 o.vk,i6 o.vn,sT o.vt]] (vcheck_any o.vk o.vn o.vt _ (by omega) (hT.below (bt (bt b2 b7) b37)) es (hE.a.below (bt (bt b2 b7) b37))) ?_
    rintro e w39 ⟨rfl,b40⟩; refine⟨_,rfl,?_⟩
    refine xe0 1 [(1,pw w.heap.size 0),(7,errV es (plainErr o.vk o.vn o.vt))] ?_
    refine nl (sg (xr0 1 [(66,errV es (plainErr o.vk o.vn o.vt))] [] ?_))
    by_cases c41:(plainErr o.vk o.vn o.vt)=0
    ·rw[show errV es (plainErr o.vk o.vn o.vt)=.nilIface from by rw[c41]; rfl]
     refine xr0 1 [(7,.nilIface),(67,bF)] [66] ?_
     refine nl (cf (sk (sg (xe1 2 [(70,.load (aL A o.attrs c))] [(70,aL A o.attrs c)] (lc 68 (Blk.below k3 (bt (bt b7 b37) b40)) 6) ?_))))
     refine xc 95 ent95 [.slice A o.attrs.length c,bF] (acheck_any _ _ o.attrs false _ (Kd.C_below hA (bt (bt (bt b2 b7) b37) b40)) hz.a (hT.below (bt (bt (bt b2 b7) b37) b40)) es (hE.a.below (bt (bt (bt b2 b7) b37) b40))) ?_
     rintro e w42 ⟨rfl,b43⟩; refine⟨_,rfl,?_⟩
     refine xe0 1 [(2,errV es (chkA false o.attrs))] ?_
     refine nl (X_ret (rj [errV es (chkA false o.attrs)] hR_ ?_))
     have B44:Below w.heap.size w w42:=(bt (bt (bt (bt b2 b7) b37) b40) b43)
     rw[show refuseP o=(chkA false o.attrs)from by unfold refuseP; simp_all<;>omega]
     exact⟨rfl,B44⟩
    rw[errV_pos es (plainErr o.vk o.vn o.vt) (Nat.pos_of_ne_zero c41)]
    refine xr0 1 [(7,.iface 208 (.pointer (some (errAt es (plainErr o.vk o.vn o.vt))))),(67,bT)] [66] ?_
    refine nl (ct (sg (xe0 2 [(2,.iface 208 (.pointer (some (errAt es (plainErr o.vk o.vn o.vt)))))] ?_)))
    refine nl (X_ret (rj [.iface 208 (.pointer (some (errAt es (plainErr o.vk o.vn o.vt))))] hR_ ?_))
    rw[show refuseP o=(plainErr o.vk o.vn o.vt)from by unfold refuseP; simp_all<;>omega,errV_pos es _ (Nat.pos_of_ne_zero c41)]
    exact⟨rfl,(bt (bt (bt b2 b7) b37) b40)⟩
   rw[errV_pos es (if (uchk o.text).2 then 0 else 1) (Nat.pos_of_ne_zero c38)]
   refine xr0 1 [(60,bT)] [59] ?_
   refine nl (ct (sg (xe 2 [(61,.load (.iface 208 (.pointer (some (errAt es 1)))))] [(2,.iface 208 (.pointer (some (errAt es 1))))] [la 45 (⟨4,0,none⟩) (.iface 208 (.pointer (some (errAt es 1)))) w36] ⟨loads1 rfl (((bt (bt b2 b7) b37).cell (World.block_lt_of_cell? _ _ (hE.load 1 4 (by decide) (by decide) rfl))).trans (hE.load 1 4 (by decide) (by decide) rfl)),trivial⟩ ?_)))
   refine nl (X_ret (rj [.iface 208 (.pointer (some (errAt es 1)))] hR_ ?_))
   rw[show refuseP o=1 from by unfold refuseP; simp_all<;>omega]
   exact⟨rfl,(bt (bt b2 b7) b37)⟩
  refine xr1 2 [(25,.eq bT)] [(22,bT)] [24] (nT c33) ?_
  refine nl (ct (sk (ct (sg (xe 2 [(38,.load (.iface 208 (.pointer (some (errAt es 9)))))] [(2,.iface 208 (.pointer (some (errAt es 9))))] [la 45 (⟨11,0,none⟩) (.iface 208 (.pointer (some (errAt es 9)))) wd6] ⟨loads1 rfl (((bt b2 b7).cell (World.block_lt_of_cell? _ _ (hE.load 9 11 (by decide) (by decide) rfl))).trans (hE.load 9 11 (by decide) (by decide) rfl)),trivial⟩ ?_)))))
  refine nl (X_ret (rj [.iface 208 (.pointer (some (errAt es 9)))] hR_ ?_))
  rw[show refuseP o=9 from by unfold refuseP; simp_all<;>omega]
  exact⟨rfl,(bt b2 b7)⟩
 refine xsC 3 [(13,.eq bF)] [(3,bF),(4,bF)] [10,12] [_] ⟨bN c32,trivial⟩ ?_
 refine XS_nil ?_
 refine sq (bk (sg (xr0 7 [(14,bT)] [] ?_)))
 refine nl (ct (sg (xe 2 [(21,.load (.iface 208 (.pointer (some (errAt es 5)))))] [(2,.iface 208 (.pointer (some (errAt es 5))))] [la 45 (⟨8,0,none⟩) (.iface 208 (.pointer (some (errAt es 5)))) wd6] ⟨loads1 rfl (((bt b2 b7).cell (World.block_lt_of_cell? _ _ (hE.load 5 8 (by decide) (by decide) rfl))).trans (hE.load 5 8 (by decide) (by decide) rfl)),trivial⟩ ?_)))
 refine nl (X_ret (rj [.iface 208 (.pointer (some (errAt es 5)))] hR_ ?_))
 rw[show refuseP o=5 from by unfold refuseP; simp_all<;>omega]
 exact⟨rfl,(bt b2 b7)⟩
theorem copied_any (A:Option Addr)(c:Nat)(xs:List At)(w:World)(hx:kAttr.C w A xs.length xs)(hn:xs.length≤100000000):Calls Tryz.prog 111 #[.slice A xs.length c] w fun e w'=>∃ A' c',e=.returned (.slice A' xs.length c')∧xs.length≤c'∧kAttr.R 148 w' w.heap.size (OkFrom w.heap.size) (.slice A' xs.length c') xs∧Below w.heap.size w w':=by
 have hpl:xs.length≤9223372036854775807:=hx.2.1
 refine en Tryz.func111 rfl 5 [(0,aL A xs c)] (fun R_ hR_=>?_)
 refine sg (xe0 1 [(0,aL A xs c)] ?_)
 refine nl (sg (xe0 1 [(3,aL A xs c)] ?_))
 refine XL_appendAll (c':=c) kAttr rfl rfl rfl w.heap.size 148 (.agg #[s0,i6 0,i6 0,s0]) 48 Tryz.underlying68 info148 rfl (by decide) (by omega) ([]) xs (by kernel_rfl) (Kd.R_nil kAttr 148 _ w.heap.size (OkFrom w.heap.size)) hx kAttr_KM (Nat.le_refl _) (by first|omega|(simp; omega)) ?_
 intro A1 c2 w3 r4 c5 g6 l7 a8
 have e9:([]++xs)=xs:=List.nil_append _
 rw[e9]at r4 ⊢
 refine xe0 1 [(2,aL A1 xs c2)] ?_
 refine nl (X_ret (rj [aL A1 xs c2] hR_ ?_))
 have B10:Below w.heap.size w w3:=(bgo (Below.refl _ _) g6 l7 (Nat.le_refl _))
 exact⟨_,_,rfl,(RX.Kd.R_len r4).2,Kd.R_low r4 (Nat.le_refl _),B10⟩
theorem clone_any (A:Option Addr)(c:Nat)(xs:List At)(w:World)(hx:kAttr.C w A xs.length xs)(hn:xs.length≤100000000):Calls Tryz.prog 96 #[.slice A xs.length c] w fun e w'=>∃ A' c',e=.returned (.slice A' xs.length c')∧xs.length≤c'∧kAttr.R 148 w' w.heap.size (OkFrom w.heap.size) (.slice A' xs.length c') xs∧Below w.heap.size w w':=by
 have hpl:xs.length≤9223372036854775807:=hx.2.1
 refine en Tryz.func96 rfl 8 [(0,aL A xs c)] (fun R_ hR_=>?_)
 refine sg (xe0 1 [(0,aL A xs c)] ?_)
 refine nl (sq (sg (xr0 1 [(3,aL A xs c)] [] ?_)))
 by_cases c1:A=none
 ·refine xr 1 [(4,.as bT)] [(4,bT)] [3] [RunsAs Tryz.prog [(3,aL A xs c)] (Go.Op.binOp Go.BinOp.eql 68 (Go.Operand.tmp 3) (Go.Operand.const (Go.Value.slice none 0 0)) 68) 4 bT w] ⟨runs_bin rfl rfl rfl (by have h_:=Lib.run_eql_slice_nil (P:=Tryz.prog) w 68 148 A xs.length c 0 0 Tryz.underlying68; rw[show A.isNone=true from by rw[c1]; rfl]at h_; exact h_),trivial⟩ ?_
  refine nl (ct (sg (xe0 1 [(2,.slice none 0 0)] ?_)))
  refine nl (X_ret (rj [.slice none 0 0] hR_ ?_))
  obtain rfl:xs=[]:=List.length_eq_zero_iff.1 (by have h_:=hx.2.2; rcases Nat.eq_zero_or_pos xs.length with h1_|h1_; (· exact h1_); (· obtain⟨ad,e_,_⟩:=h_ h1_; rw[c1]at e_; cases e_))
  exact⟨none,0,rfl,Nat.le_refl _,Kd.R_nil _ _ _ _ _,(Below.refl _ _)⟩
 refine xr 1 [(4,.as bF)] [(4,bF)] [3] [RunsAs Tryz.prog [(3,aL A xs c)] (Go.Op.binOp Go.BinOp.eql 68 (Go.Operand.tmp 3) (Go.Operand.const (Go.Value.slice none 0 0)) 68) 4 bF w] ⟨runs_bin rfl rfl rfl (by have h_:=Lib.run_eql_slice_nil (P:=Tryz.prog) w 68 148 A xs.length c 0 0 Tryz.underlying68; rw[show A.isNone=false from by cases hA_:A with|none=>exact absurd hA_ c1|some _=>rfl]at h_; exact h_),trivial⟩ ?_
 refine nl (cf (sk (sg (xw 1 [] [(5,.slice (some ⟨w.heap.size,0,none⟩) 0 0)] [4] (w.alloc (.cells #[] 148)) [] trivial ?_))))
 obtain⟨w2,w6,b3,k4,z5⟩:=new_world w #[] 148
 rw[w6]
 refine xr0 1 [(6,aL A xs c)] [0] ?_
 have r7:=Kd.R_litB kAttr (W:=w) (e:=148) (cs:=#[]) [] k4 (repsAttr []) (Nat.le_of_ble_eq_true (by kernel_rfl))
 refine XL_appendAll (c':=c) kAttr rfl rfl rfl w.heap.size 148 (.agg #[s0,i6 0,i6 0,s0]) 48 Tryz.underlying68 info148 rfl (by decide) (by omega) ([]) xs (by kernel_rfl) r7 (Kd.C_below hx b3) kAttr_KM (b3).size (by first|omega|(simp; omega)) ?_
 intro A8 c9 w10 r11 hc12 g13 l14 a15
 have e16:([]++xs)=xs:=List.nil_append _
 rw[e16]at r11 ⊢
 refine xe0 1 [(2,aL A8 xs c9)] ?_
 refine nl (X_ret (rj [aL A8 xs c9] hR_ ?_))
 exact⟨_,_,rfl,(RX.Kd.R_len r11).2,Kd.R_low r11 (Nat.le_refl _),(bgo b3 g13 l14 (Nat.le_refl _))⟩
theorem kAttrs_R {w W w0:World}{A:Option Addr}{n c:Nat}{xs:List At}(h:kAttr.R 148 w W.heap.size (OkFrom W.heap.size) (.slice A n c) xs)(hb:w0.heap.size≤W.heap.size):kAttrs.M w w0.heap.size (OkFrom w0.heap.size) xs [.slice A n c]:=⟨_,rfl,Kd.R_low h hb⟩
theorem refuse_kind {o:OpA}(h:refuseP o=0):o.kind=1∨o.kind=2:=by
 unfold refuseP at h
 by_cases h1:o.kind≠1∧o.kind≠2
 ·rw[if_pos h1]at h; cases h
 omega
theorem refuse_utf {o:OpA}(h:refuseP o=0):U.utf o.text∧(o.kind=2→plainErr o.vk o.vn o.vt=0)∧chkA false o.attrs=0:=by
 unfold refuseP at h
 split at h
 ·cases h
 split at h
 ·cases h
 split at h
 ·cases h
 split at h
 ·cases h
 split at h
 ·cases h
 rename_i h1
 have hu:U.utf o.text:=by rw[U.uchk_eq]at h1; unfold U.utf; simpa using h1
 split at h
 ·rename_i h2; exact absurd h h2.2
 rename_i h2; exact⟨hu,fun hk=>Classical.byContradiction fun h3=>h2 ⟨hk,h3⟩,h⟩
set_option maxHeartbeats 2000000 in
theorem cof_any (o:OpA)(A:Option Addr)(c:Nat)(w:World)(hA:kAttr.C w A o.attrs.length o.attrs)(hz:opSz o)(hT:Tabs w)(es:List Addr)(hE:ErrsI w es):Calls Tryz.prog 94 #[.agg (o7A o (.slice A o.attrs.length c))] w fun e w'=>∃ v,e=.returned (.tuple #[v,errV es (refuseP o)])∧(refuseP o=0→kPiece.M w' w.heap.size (OkFrom w.heap.size) (pOf o) [v])∧(refuseP o≠0→v=.nilIface)∧Below w.heap.size w w':=by
 have hz1:=hz.1
 have hz2:=hz.2.1
 have hz3:=hz.2.2.1
 refine en Tryz.func94 rfl 52 [(0,.agg (o7A o (aL A o.attrs c)))] (fun R_ hR_=>?_)
 refine sg (xwe 1 [] [(1,pw w.heap.size 0)] (w.alloc (.cells (o7A o (aL A o.attrs c)) 70)) [] trivial ?_)
 obtain⟨w1,w5,b2,k3,z4⟩:=new_world w (o7A o (aL A o.attrs c)) 70
 rw[w5]
 refine xr0 2 [] [] ?_
 refine nl (sq (sg (xr 1 [(10,.load (.agg (o7A o (aL A o.attrs c))))] [(10,.agg (o7A o (aL A o.attrs c)))] [] [la 70 (⟨w.heap.size,0,none⟩) (.agg (o7A o (aL A o.attrs c))) w1] ⟨loadsB rfl rfl k3 0 ⟨by kernel_rfl,by kernel_rfl⟩,trivial⟩ ?_)))
 refine xc 110 ent110 [.agg (o7A o (aL A o.attrs c))] (refuse_any o _ _ _ (Kd.C_below hA b2) hz (hT.below b2) es (hE.below b2)) ?_
 rintro e w_6 ⟨rfl,b7⟩; refine⟨_,rfl,?_⟩
 refine xr0 1 [(4,errV es (refuseP o))] [10,11] ?_
 refine nl (sg (xr0 1 [(12,errV es (refuseP o))] [] ?_))
 by_cases c8:(refuseP o)=0
 ·rw[show errV es (refuseP o)=.nilIface from by rw[c8]; rfl]
  refine xr0 1 [(4,.nilIface),(13,bF)] [12] ?_
  refine nl (cf (sk (sg (xe1 2 [(16,.load (aL A o.attrs c))] [(1,pw w.heap.size 0),(16,aL A o.attrs c)] (lc 68 (Blk.below k3 b7) 6) ?_))))
  refine xc 111 ent111 [aL A o.attrs c] (copied_any _ _ o.attrs _ (Kd.C_below hA (bt b2 b7)) (by omega)) ?_
  rintro e w11 ⟨A9,c10,rfl,l13,r14,b12⟩; refine⟨_,rfl,?_⟩
  refine xw 2 [] [(5,pw w11.heap.size 0),(18,.agg #[aL A9 o.attrs c10])] [16,17] (w11.alloc (.cells #[.slice none 0 0] 129)) [] trivial ?_
  obtain⟨w15,w19,b16,k17,z18⟩:=new_world w11 #[.slice none 0 0] 129
  rw[w19]
  refine xst (.agg #[aL A9 o.attrs c10]) k17 0 #[aL A9 o.attrs c10] (fun w20 g21 k22 z23=>?_)
  refine nl (sq (sq (X_region ?_)))
  have B24:Below w1.heap.size w1 w20:=(bg (bt (bt b7 b12) b16) g21 ((bt b7 b12)).size)
  refine xr1 2 [(20,.load (i6 o.kind))] [(20,i6 o.kind)] [18] (lc 3 (Blk.below k3 B24) 0) ?_
  by_cases c25:o.kind=1
  ·refine xr1 1 [(21,.eq bT)] [(21,bT)] [20] (bE c25) ?_
   refine nl (ct (sg (xr1 2 [(24,.load (sT o.text))] [(24,sT o.text)] [21] (lc 9 (Blk.below k3 B24) 1) ?_)))
   have B26:Below w.heap.size w w20:=(bg (bt (bt (bt b2 b7) b12) b16) g21 ((bt (bt b2 b7) b12)).size)
   refine xc 112 ent112 [sT o.text] (len_any o.text _ (by omega) (hT.below B26) es (hE.a.below B26)) ?_
   rintro e w27 ⟨rfl,b28⟩; refine⟨_,rfl,?_⟩
   rw[show U.lenP o.text=((U.sc o.text).length,0)from if_pos (refuse_utf c8).1]
   refine xr0 5 [(6,i6 ((U.sc o.text).length:Int)),(7,.nilIface)] [24,25] ?_
   refine nl (sq (sg (xe0 2 [(1,pw w.heap.size 0),(5,pw w11.heap.size 0),(6,i6 ((U.sc o.text).length:Int)),(29,bF)] ?_)))
   refine nl (cf (sk (sg (xe 8 [(31,.load (.agg #[aL A9 o.attrs c10])),(33,.load (sT o.text))] [(2,.iface 153 (.agg #[.slice A9 o.attrs.length c10,sT o.text,i6 ((U.sc o.text).length:Int)])),(3,.nilIface)] [la 129 (⟨w11.heap.size,0,none⟩) (.agg #[aL A9 o.attrs c10]) w27,_] ⟨loadsB rfl rfl (Blk.below k22 b28) 0 ⟨by kernel_rfl,by kernel_rfl⟩,lc 9 (Blk.below k3 (bt B24 b28)) 1,trivial⟩ ?_))))
   refine nl (X_ret (rj [.iface 153 (.agg #[.slice A9 o.attrs.length c10,sT o.text,i6 ((U.sc o.text).length:Int)]),.nilIface] hR_ ?_))
   have B29:Below w11.heap.size w11 w27:=(bt (bg b16 g21 (Nat.le_refl _)) b28)
   have hp0:refuseP o=0:=c8
   have hkk:o.kind=1:=c25
   rw[hp0,pOf_ins hkk]
   exact⟨_,rfl,fun _=>kPiece_Mins ⟨_,rfl,Kd.R_low (Kd.R_below r14 B29) ((bt b2 b7)).size⟩,fun h_=>absurd rfl h_,(bt B26 b28)⟩
  refine xr1 1 [(21,.eq bF)] [(21,bF)] [20] (bN c25) ?_
  refine nl (cf (sk (sg (xr 2 [(39,.load (.agg #[i6 o.vk,i6 o.vn,sT o.vt]))] [(39,.agg #[i6 o.vk,i6 o.vn,sT o.vt])] [21] [la 67 (⟨w.heap.size,2,none⟩) (.agg #[i6 o.vk,i6 o.vn,sT o.vt]) w20] ⟨loadsB rfl rfl (Blk.below k3 B24) 2 ⟨by kernel_rfl,by kernel_rfl⟩,trivial⟩ ?_))))
  have B30:Below w.heap.size w w20:=(bg (bt (bt (bt b2 b7) b12) b16) g21 ((bt (bt b2 b7) b12)).size)
  refine xc 113 ent113 [.agg #[i6 o.vk,i6 o.vn,sT o.vt]] (vof_any o.vk o.vn o.vt _ (by omega) (hT.below B30) es (hE.a.below B30)) ?_
  rintro e w31 ⟨rfl,b32⟩; refine⟨_,rfl,?_⟩
  have hk2:o.kind=2:=by have h_:=refuse_kind c8; omega
  rw[if_pos ((refuse_utf c8).2.1 hk2),(refuse_utf c8).2.1 hk2]
  refine xr0 5 [(8,valV (o.vk,o.vn,o.vt)),(9,.nilIface)] [39,40] ?_
  refine nl (sq (sg (xe0 2 [(1,pw w.heap.size 0),(5,pw w11.heap.size 0),(8,valV (o.vk,o.vn,o.vt)),(9,.nilIface),(44,bF)] ?_)))
  refine nl (cf (sk (sq (X_region ?_))))
  by_cases c33:o.vk=1
  ·rw[valV1 (v:=(o.vk,o.vn,o.vt)) c33]
   refine xe 8 [(46,.load (.agg #[aL A9 o.attrs c10])),(48,.load (sT o.text))] [(2,.iface 157 (.agg #[.slice A9 o.attrs.length c10,sT o.text,.iface 203 (.bool (decide (o.vn=1)))])),(3,.nilIface)] [la 129 (⟨w11.heap.size,0,none⟩) (.agg #[aL A9 o.attrs c10]) w31,_] ⟨loadsB rfl rfl (Blk.below k22 b32) 0 ⟨by kernel_rfl,by kernel_rfl⟩,lc 9 (Blk.below k3 (bt B24 b32)) 1,trivial⟩ ?_
   refine nl (X_ret (rj [.iface 157 (.agg #[.slice A9 o.attrs.length c10,sT o.text,.iface 203 (.bool (decide (o.vn=1)))]),.nilIface] hR_ ?_))
   have B34:Below w11.heap.size w11 w31:=(bt (bg b16 g21 (Nat.le_refl _)) b32)
   have hp0:refuseP o=0:=c8
   have hkk:o.kind=2:=hk2
   rw[hp0,pOf_emb hkk]
   exact⟨_,rfl,fun _=>(by have h_:=kPiece_Memb (k:=o.text) (v:=(o.vk,o.vn,o.vt)) (kAttrs_R (Kd.R_below r14 B34) ((bt b2 b7)).size); rw[valV1 (v:=(o.vk,o.vn,o.vt)) c33]at h_; exact h_),fun h_=>absurd rfl h_,(bt B30 b32)⟩
  by_cases c35:o.vk=2
  ·rw[valV2 (v:=(o.vk,o.vn,o.vt)) c33 c35]
   refine xe 8 [(46,.load (.agg #[aL A9 o.attrs c10])),(48,.load (sT o.text))] [(2,.iface 157 (.agg #[.slice A9 o.attrs.length c10,sT o.text,.iface 204 (i6 o.vn)])),(3,.nilIface)] [la 129 (⟨w11.heap.size,0,none⟩) (.agg #[aL A9 o.attrs c10]) w31,_] ⟨loadsB rfl rfl (Blk.below k22 b32) 0 ⟨by kernel_rfl,by kernel_rfl⟩,lc 9 (Blk.below k3 (bt B24 b32)) 1,trivial⟩ ?_
   refine nl (X_ret (rj [.iface 157 (.agg #[.slice A9 o.attrs.length c10,sT o.text,.iface 204 (i6 o.vn)]),.nilIface] hR_ ?_))
   have B36:Below w11.heap.size w11 w31:=(bt (bg b16 g21 (Nat.le_refl _)) b32)
   have hp0:refuseP o=0:=c8
   have hkk:o.kind=2:=hk2
   rw[hp0,pOf_emb hkk]
   exact⟨_,rfl,fun _=>(by have h_:=kPiece_Memb (k:=o.text) (v:=(o.vk,o.vn,o.vt)) (kAttrs_R (Kd.R_below r14 B36) ((bt b2 b7)).size); rw[valV2 (v:=(o.vk,o.vn,o.vt)) c33 c35]at h_; exact h_),fun h_=>absurd rfl h_,(bt B30 b32)⟩
  by_cases c37:o.vk=3
  ·rw[valV3 (v:=(o.vk,o.vn,o.vt)) c33 c35 c37]
   refine xe 8 [(46,.load (.agg #[aL A9 o.attrs c10])),(48,.load (sT o.text))] [(2,.iface 157 (.agg #[.slice A9 o.attrs.length c10,sT o.text,.iface 205 (sT o.vt)])),(3,.nilIface)] [la 129 (⟨w11.heap.size,0,none⟩) (.agg #[aL A9 o.attrs c10]) w31,_] ⟨loadsB rfl rfl (Blk.below k22 b32) 0 ⟨by kernel_rfl,by kernel_rfl⟩,lc 9 (Blk.below k3 (bt B24 b32)) 1,trivial⟩ ?_
   refine nl (X_ret (rj [.iface 157 (.agg #[.slice A9 o.attrs.length c10,sT o.text,.iface 205 (sT o.vt)]),.nilIface] hR_ ?_))
   have B38:Below w11.heap.size w11 w31:=(bt (bg b16 g21 (Nat.le_refl _)) b32)
   have hp0:refuseP o=0:=c8
   have hkk:o.kind=2:=hk2
   rw[hp0,pOf_emb hkk]
   exact⟨_,rfl,fun _=>(by have h_:=kPiece_Memb (k:=o.text) (v:=(o.vk,o.vn,o.vt)) (kAttrs_R (Kd.R_below r14 B38) ((bt b2 b7)).size); rw[valV3 (v:=(o.vk,o.vn,o.vt)) c33 c35 c37]at h_; exact h_),fun h_=>absurd rfl h_,(bt B30 b32)⟩
  rw[valV0 (v:=(o.vk,o.vn,o.vt)) c33 c35 c37]
  refine xe 8 [(46,.load (.agg #[aL A9 o.attrs c10])),(48,.load (sT o.text))] [(2,.iface 157 (.agg #[.slice A9 o.attrs.length c10,sT o.text,.iface 207 (.agg #[])])),(3,.nilIface)] [la 129 (⟨w11.heap.size,0,none⟩) (.agg #[aL A9 o.attrs c10]) w31,_] ⟨loadsB rfl rfl (Blk.below k22 b32) 0 ⟨by kernel_rfl,by kernel_rfl⟩,lc 9 (Blk.below k3 (bt B24 b32)) 1,trivial⟩ ?_
  refine nl (X_ret (rk [.iface 157 (.agg #[.slice A9 o.attrs.length c10,sT o.text,.iface 207 (.agg #[])]),.nilIface] (hR_ _ _ ?_)))
  have B39:Below w11.heap.size w11 w31:=(bt (bg b16 g21 (Nat.le_refl _)) b32)
  have hp0:refuseP o=0:=c8
  have hkk:o.kind=2:=hk2
  rw[hp0,pOf_emb hkk]
  exact⟨_,rfl,fun _=>(by have h_:=kPiece_Memb (k:=o.text) (v:=(o.vk,o.vn,o.vt)) (kAttrs_R (Kd.R_below r14 B39) ((bt b2 b7)).size); rw[valV0 (v:=(o.vk,o.vn,o.vt)) c33 c35 c37]at h_; exact h_),fun h_=>absurd rfl h_,(bt B30 b32)⟩
 rw[errV_pos es (refuseP o) (Nat.pos_of_ne_zero c8)]
 refine xr0 1 [(4,.iface 208 (.pointer (some (errAt es (refuseP o))))),(13,bT)] [12] ?_
 refine nl (ct (sg (xe0 3 [(2,.nilIface),(3,.iface 208 (.pointer (some (errAt es (refuseP o)))))] ?_)))
 refine nl (X_ret (rj [.nilIface,.iface 208 (.pointer (some (errAt es (refuseP o))))] hR_ ?_))
 rw[←errV_pos es (refuseP o) (Nat.pos_of_ne_zero c8)]
 exact⟨_,rfl,fun h_=>absurd h_ c8,fun _=>rfl,(bt b2 b7)⟩
set_option maxHeartbeats 2000000 in
theorem has_anyO (o:OpA)(A:Option Addr)(c:Nat)(w:World)(hA:kAttr.C w A o.attrs.length o.attrs)(hz:opSz o):Rt 93 #[.agg (o7A o (.slice A o.attrs.length c))] w (.bool (hasP o)):=by
 refine en Tryz.func93 rfl 45 [(0,.agg (o7A o (aL A o.attrs c)))] (fun R_ hR_=>?_)
 refine sg (xwe 1 [] [(1,pw w.heap.size 0)] (w.alloc (.cells (o7A o (aL A o.attrs c)) 70)) [] trivial ?_)
 obtain⟨w1,w5,b2,k3,z4⟩:=new_world w (o7A o (aL A o.attrs c)) 70
 rw[w5]
 refine xr0 1 [] [] ?_
 refine nl (sq (X_still (by kernel_rfl) (by kernel_rfl) (fun wd6 b7 h8=>?_)))
 refine xsC 3 [(6,.load (.agg #[i6 o.vk,i6 o.vn,sT o.vt]))] [(6,.agg #[i6 o.vk,i6 o.vn,sT o.vt]),(7,.agg #[i6 0,i6 0,s0])] [] [la 67 (⟨w.heap.size,2,none⟩) (.agg #[i6 o.vk,i6 o.vn,sT o.vt]) wd6] ⟨loadsB rfl rfl (Blk.below k3 b7) 2 ⟨by kernel_rfl,by kernel_rfl⟩,trivial⟩ ?_
 by_cases c9:(o.vk,o.vn,o.vt)=pl0
 ·refine xsC 3 [(8,.as bT),(10,.load (i6 o.count))] [(8,bT),(10,i6 o.count)] [6,7] [RunsAs Tryz.prog [(6,.agg #[i6 o.vk,i6 o.vn,sT o.vt]),(7,.agg #[i6 0,i6 0,s0])] (Go.Op.binOp Go.BinOp.eql 67 (Go.Operand.tmp 6) (Go.Operand.tmp 7) 67) 4 bT wd6,_] ⟨runs_bin rfl rfl (run_eqGuard_agg _ _ _ _ _ _ _ (by kernel_rfl)) (by have h:=plain_eqb (o.vk,o.vn,o.vt) pl0 wd6; rw[show ple (o.vk,o.vn,o.vt) pl0=true from(ple_iff _ _).2 c9]at h; exact h),lc 3 (Blk.below k3 b7) 5,trivial⟩ ?_
  by_cases c10:o.count=0
  ·refine xsC 3 [(11,.eq bT)] [(3,bT),(4,bT)] [8,10] [_] ⟨bE c10,trivial⟩ ?_
   refine XS_nil ?_
   refine sq (sg (xr1 2 [(13,.load (i6 o.kind))] [(13,i6 o.kind)] [] (lc 3 (Blk.below k3 b7) 0) ?_))
   refine nl (bk (sq (X_region ?_)))
   by_cases c11:o.kind=1
   ·refine xe1 2 [(15,.eq bT)] [(1,pw w.heap.size 0),(3,bT),(4,bT),(13,i6 o.kind),(14,bT)] (bE c11) ?_
    refine nl (ct (sg (xe0 5 [(2,bT)] ?_)))
    refine nl (X_ret (rj [bT] hR_ ?_))
    rw[show hasP o=true from by unfold hasP; simp_all]
    exact⟨rfl,(bt b2 b7)⟩
   refine xe1 2 [(15,.eq bF)] [(1,pw w.heap.size 0),(3,bT),(4,bT),(13,i6 o.kind),(14,bF)] (bN c11) ?_
   refine nl (cf (sq (X_region ?_)))
   by_cases c12:o.kind=2
   ·refine xr1 2 [(21,.eq bT)] [(20,bT)] [14] (bE c12) ?_
    refine nl (ct (sg (xe0 2 [(2,bT)] ?_)))
    refine nl (X_ret (rj [bT] hR_ ?_))
    rw[show hasP o=true from by unfold hasP; simp_all]
    exact⟨rfl,(bt b2 b7)⟩
   refine xr1 2 [(21,.eq bF)] [(20,bF)] [14] (bN c12) ?_
   refine nl (cf (sq (X_region ?_)))
   by_cases c13:o.kind=3
   ·refine xr1 2 [(24,.eq bT)] [(23,bT)] [4,20] (bE c13) ?_
    refine nl (ct (sg (xe1 4 [(28,.load (sT o.text))] [(26,bT),(28,sT o.text)] (lc 9 (Blk.below k3 b7) 1) ?_)))
    by_cases c14:o.text=(⟨#[]⟩:ByteArray)
    ·refine xe 3 [(29,.eq bT)] [(2,bT)] [Value.bool (o.text.toList==(⟨#[]⟩:ByteArray).toList)=bT] ⟨congrArg Value.bool (strEqT (c14)),trivial⟩ ?_
     refine nl (X_ret (rj [bT] hR_ ?_))
     rw[show hasP o=true from by unfold hasP; simp_all]
     exact⟨rfl,(bt b2 b7)⟩
    refine xe 3 [(29,.eq bF)] [(2,bF)] [Value.bool (o.text.toList==(⟨#[]⟩:ByteArray).toList)=bF] ⟨congrArg Value.bool (strEqF (c14)),trivial⟩ ?_
    refine nl (X_ret (rj [bF] hR_ ?_))
    rw[show hasP o=false from by unfold hasP; simp_all]
    exact⟨rfl,(bt b2 b7)⟩
   refine xr1 2 [(24,.eq bF)] [(23,bF)] [4,20] (bN c13) ?_
   refine nl (cf (sq (X_region ?_)))
   by_cases c15:o.kind=4
   ·refine xr1 2 [(32,.eq bT)] [(31,bT)] [13,23] (bE c15) ?_
    refine nl (ct (sg (xr1 4 [(36,.load (sT o.text))] [(34,bT),(36,sT o.text)] [3,31] (lc 9 (Blk.below k3 b7) 1) ?_)))
    by_cases c16:o.text=(⟨#[]⟩:ByteArray)
    ·refine xe 6 [(37,.eq bT),(41,.load (aL A o.attrs c))] [(39,bT),(42,i6 (o.attrs.length:Int))] [Value.bool (o.text.toList==(⟨#[]⟩:ByteArray).toList)=bT,_] ⟨congrArg Value.bool (strEqT (c16)),lc 68 (Blk.below k3 b7) 6,trivial⟩ ?_
     by_cases c17:(o.attrs.length:Int)=0
     ·refine xe1 3 [(43,.eq bT)] [(2,bT)] (bE c17) ?_
      refine nl (X_ret (rj [bT] hR_ ?_))
      rw[show hasP o=true from by unfold hasP; simp_all]
      exact⟨rfl,(bt b2 b7)⟩
     refine xe1 3 [(43,.eq bF)] [(2,bF)] (bN c17) ?_
     refine nl (X_ret (rj [bF] hR_ ?_))
     rw[show hasP o=false from by unfold hasP; simp_all]
     exact⟨rfl,(bt b2 b7)⟩
    refine xe 9 [(37,.eq bF)] [(2,bF)] [Value.bool (o.text.toList==(⟨#[]⟩:ByteArray).toList)=bF] ⟨congrArg Value.bool (strEqF (c16)),trivial⟩ ?_
    refine nl (X_ret (rj [bF] hR_ ?_))
    rw[show hasP o=false from by unfold hasP; simp_all]
    exact⟨rfl,(bt b2 b7)⟩
   refine xr1 2 [(32,.eq bF)] [(31,bF)] [13,23] (bN c15) ?_
   refine nl (cf (sk (sg (xe0 1 [(2,bF)] ?_))))
   refine nl (X_ret (rj [bF] hR_ ?_))
   rw[show hasP o=false from by unfold hasP; simp_all]
   exact⟨rfl,(bt b2 b7)⟩
  refine xsC 3 [(11,.eq bF)] [(3,bT),(4,bF)] [8,10] [_] ⟨bN c10,trivial⟩ ?_
  refine XS_nil ?_
  refine sq (sg (xr1 2 [(13,.load (i6 o.kind))] [(13,i6 o.kind)] [] (lc 3 (Blk.below k3 b7) 0) ?_))
  refine nl (bk (sq (X_region ?_)))
  by_cases c18:o.kind=1
  ·refine xe1 2 [(15,.eq bT)] [(1,pw w.heap.size 0),(3,bT),(4,bF),(13,i6 o.kind),(14,bT)] (bE c18) ?_
   refine nl (ct (sg (xe0 5 [(2,bF)] ?_)))
   refine nl (X_ret (rj [bF] hR_ ?_))
   rw[show hasP o=false from by unfold hasP; simp_all]
   exact⟨rfl,(bt b2 b7)⟩
  refine xe1 2 [(15,.eq bF)] [(1,pw w.heap.size 0),(3,bT),(4,bF),(13,i6 o.kind),(14,bF)] (bN c18) ?_
  refine nl (cf (sq (X_region ?_)))
  by_cases c19:o.kind=2
  ·refine xr1 2 [(21,.eq bT)] [(20,bT)] [14] (bE c19) ?_
   refine nl (ct (sg (xe0 2 [(2,bF)] ?_)))
   refine nl (X_ret (rj [bF] hR_ ?_))
   rw[show hasP o=false from by unfold hasP; simp_all]
   exact⟨rfl,(bt b2 b7)⟩
  refine xr1 2 [(21,.eq bF)] [(20,bF)] [14] (bN c19) ?_
  refine nl (cf (sq (X_region ?_)))
  by_cases c20:o.kind=3
  ·refine xr1 2 [(24,.eq bT)] [(23,bT)] [4,20] (bE c20) ?_
   refine nl (ct (sg (xe1 4 [(28,.load (sT o.text))] [(26,bT),(28,sT o.text)] (lc 9 (Blk.below k3 b7) 1) ?_)))
   by_cases c21:o.text=(⟨#[]⟩:ByteArray)
   ·refine xe 3 [(29,.eq bT)] [(2,bT)] [Value.bool (o.text.toList==(⟨#[]⟩:ByteArray).toList)=bT] ⟨congrArg Value.bool (strEqT (c21)),trivial⟩ ?_
    refine nl (X_ret (rj [bT] hR_ ?_))
    rw[show hasP o=true from by unfold hasP; simp_all]
    exact⟨rfl,(bt b2 b7)⟩
   refine xe 3 [(29,.eq bF)] [(2,bF)] [Value.bool (o.text.toList==(⟨#[]⟩:ByteArray).toList)=bF] ⟨congrArg Value.bool (strEqF (c21)),trivial⟩ ?_
   refine nl (X_ret (rj [bF] hR_ ?_))
   rw[show hasP o=false from by unfold hasP; simp_all]
   exact⟨rfl,(bt b2 b7)⟩
  refine xr1 2 [(24,.eq bF)] [(23,bF)] [4,20] (bN c20) ?_
  refine nl (cf (sq (X_region ?_)))
  by_cases c22:o.kind=4
  ·refine xr1 2 [(32,.eq bT)] [(31,bT)] [13,23] (bE c22) ?_
   refine nl (ct (sg (xr1 4 [(36,.load (sT o.text))] [(34,bT),(36,sT o.text)] [3,31] (lc 9 (Blk.below k3 b7) 1) ?_)))
   by_cases c23:o.text=(⟨#[]⟩:ByteArray)
   ·refine xe 6 [(37,.eq bT),(41,.load (aL A o.attrs c))] [(39,bT),(42,i6 (o.attrs.length:Int))] [Value.bool (o.text.toList==(⟨#[]⟩:ByteArray).toList)=bT,_] ⟨congrArg Value.bool (strEqT (c23)),lc 68 (Blk.below k3 b7) 6,trivial⟩ ?_
    by_cases c24:(o.attrs.length:Int)=0
    ·refine xe1 3 [(43,.eq bT)] [(2,bT)] (bE c24) ?_
     refine nl (X_ret (rj [bT] hR_ ?_))
     rw[show hasP o=true from by unfold hasP; simp_all]
     exact⟨rfl,(bt b2 b7)⟩
    refine xe1 3 [(43,.eq bF)] [(2,bF)] (bN c24) ?_
    refine nl (X_ret (rj [bF] hR_ ?_))
    rw[show hasP o=false from by unfold hasP; simp_all]
    exact⟨rfl,(bt b2 b7)⟩
   refine xe 9 [(37,.eq bF)] [(2,bF)] [Value.bool (o.text.toList==(⟨#[]⟩:ByteArray).toList)=bF] ⟨congrArg Value.bool (strEqF (c23)),trivial⟩ ?_
   refine nl (X_ret (rj [bF] hR_ ?_))
   rw[show hasP o=false from by unfold hasP; simp_all]
   exact⟨rfl,(bt b2 b7)⟩
  refine xr1 2 [(32,.eq bF)] [(31,bF)] [13,23] (bN c22) ?_
  refine nl (cf (sk (sg (xe0 1 [(2,bF)] ?_))))
  refine nl (X_ret (rj [bF] hR_ ?_))
  rw[show hasP o=false from by unfold hasP; simp_all]
  exact⟨rfl,(bt b2 b7)⟩
 refine xsC 3 [(8,.as bF),(10,.load (i6 o.count))] [(8,bF),(10,i6 o.count)] [6,7] [RunsAs Tryz.prog [(6,.agg #[i6 o.vk,i6 o.vn,sT o.vt]),(7,.agg #[i6 0,i6 0,s0])] (Go.Op.binOp Go.BinOp.eql 67 (Go.Operand.tmp 6) (Go.Operand.tmp 7) 67) 4 bF wd6,_] ⟨runs_bin rfl rfl (run_eqGuard_agg _ _ _ _ _ _ _ (by kernel_rfl)) (by have h:=plain_eqb (o.vk,o.vn,o.vt) pl0 wd6; rw[show ple (o.vk,o.vn,o.vt) pl0=false from Bool.eq_false_iff.2 (fun k=>c9 ((ple_iff _ _).1 k))]at h; exact h),lc 3 (Blk.below k3 b7) 5,trivial⟩ ?_
 by_cases c25:o.count=0
 ·refine xsC 3 [(11,.eq bT)] [(3,bF),(4,bT)] [8,10] [_] ⟨bE c25,trivial⟩ ?_
  refine XS_nil ?_
  refine sq (sg (xr1 2 [(13,.load (i6 o.kind))] [(13,i6 o.kind)] [] (lc 3 (Blk.below k3 b7) 0) ?_))
  refine nl (bk (sq (X_region ?_)))
  by_cases c26:o.kind=1
  ·refine xe1 2 [(15,.eq bT)] [(1,pw w.heap.size 0),(3,bF),(4,bT),(13,i6 o.kind),(14,bT)] (bE c26) ?_
   refine nl (ct (sg (xe0 5 [(2,bF)] ?_)))
   refine nl (X_ret (rj [bF] hR_ ?_))
   rw[show hasP o=false from by unfold hasP; simp_all]
   exact⟨rfl,(bt b2 b7)⟩
  refine xe1 2 [(15,.eq bF)] [(1,pw w.heap.size 0),(3,bF),(4,bT),(13,i6 o.kind),(14,bF)] (bN c26) ?_
  refine nl (cf (sq (X_region ?_)))
  by_cases c27:o.kind=2
  ·refine xr1 2 [(21,.eq bT)] [(20,bT)] [14] (bE c27) ?_
   refine nl (ct (sg (xe0 2 [(2,bT)] ?_)))
   refine nl (X_ret (rj [bT] hR_ ?_))
   rw[show hasP o=true from by unfold hasP; simp_all]
   exact⟨rfl,(bt b2 b7)⟩
  refine xr1 2 [(21,.eq bF)] [(20,bF)] [14] (bN c27) ?_
  refine nl (cf (sq (X_region ?_)))
  by_cases c28:o.kind=3
  ·refine xr1 2 [(24,.eq bT)] [(23,bT)] [4,20] (bE c28) ?_
   refine nl (ct (sg (xe0 7 [(2,bF)] ?_)))
   refine nl (X_ret (rj [bF] hR_ ?_))
   rw[show hasP o=false from by unfold hasP; simp_all]
   exact⟨rfl,(bt b2 b7)⟩
  refine xr1 2 [(24,.eq bF)] [(23,bF)] [4,20] (bN c28) ?_
  refine nl (cf (sq (X_region ?_)))
  by_cases c29:o.kind=4
  ·refine xr1 2 [(32,.eq bT)] [(31,bT)] [13,23] (bE c29) ?_
   refine nl (ct (sg (xe0 13 [(2,bF)] ?_)))
   refine nl (X_ret (rj [bF] hR_ ?_))
   rw[show hasP o=false from by unfold hasP; simp_all]
   exact⟨rfl,(bt b2 b7)⟩
  refine xr1 2 [(32,.eq bF)] [(31,bF)] [13,23] (bN c29) ?_
  refine nl (cf (sk (sg (xe0 1 [(2,bF)] ?_))))
  refine nl (X_ret (rj [bF] hR_ ?_))
  rw[show hasP o=false from by unfold hasP; simp_all]
  exact⟨rfl,(bt b2 b7)⟩
 refine xsC 3 [(11,.eq bF)] [(3,bF),(4,bF)] [8,10] [_] ⟨bN c25,trivial⟩ ?_
 refine XS_nil ?_
 refine sq (sg (xr1 2 [(13,.load (i6 o.kind))] [(13,i6 o.kind)] [] (lc 3 (Blk.below k3 b7) 0) ?_))
 refine nl (bk (sq (X_region ?_)))
 by_cases c30:o.kind=1
 ·refine xe1 2 [(15,.eq bT)] [(1,pw w.heap.size 0),(3,bF),(4,bF),(13,i6 o.kind),(14,bT)] (bE c30) ?_
  refine nl (ct (sg (xe0 5 [(2,bF)] ?_)))
  refine nl (X_ret (rj [bF] hR_ ?_))
  rw[show hasP o=false from by unfold hasP; simp_all]
  exact⟨rfl,(bt b2 b7)⟩
 refine xe1 2 [(15,.eq bF)] [(1,pw w.heap.size 0),(3,bF),(4,bF),(13,i6 o.kind),(14,bF)] (bN c30) ?_
 refine nl (cf (sq (X_region ?_)))
 by_cases c31:o.kind=2
 ·refine xr1 2 [(21,.eq bT)] [(20,bT)] [14] (bE c31) ?_
  refine nl (ct (sg (xe0 2 [(2,bF)] ?_)))
  refine nl (X_ret (rj [bF] hR_ ?_))
  rw[show hasP o=false from by unfold hasP; simp_all]
  exact⟨rfl,(bt b2 b7)⟩
 refine xr1 2 [(21,.eq bF)] [(20,bF)] [14] (bN c31) ?_
 refine nl (cf (sq (X_region ?_)))
 by_cases c32:o.kind=3
 ·refine xr1 2 [(24,.eq bT)] [(23,bT)] [4,20] (bE c32) ?_
  refine nl (ct (sg (xe0 7 [(2,bF)] ?_)))
  refine nl (X_ret (rj [bF] hR_ ?_))
  rw[show hasP o=false from by unfold hasP; simp_all]
  exact⟨rfl,(bt b2 b7)⟩
 refine xr1 2 [(24,.eq bF)] [(23,bF)] [4,20] (bN c32) ?_
 refine nl (cf (sq (X_region ?_)))
 by_cases c33:o.kind=4
 ·refine xr1 2 [(32,.eq bT)] [(31,bT)] [13,23] (bE c33) ?_
  refine nl (ct (sg (xe0 13 [(2,bF)] ?_)))
  refine nl (X_ret (rj [bF] hR_ ?_))
  rw[show hasP o=false from by unfold hasP; simp_all]
  exact⟨rfl,(bt b2 b7)⟩
 refine xr1 2 [(32,.eq bF)] [(31,bF)] [13,23] (bN c33) ?_
 refine nl (cf (sk (sg (xe0 1 [(2,bF)] ?_))))
 refine nl (X_ret (rj [bF] hR_ ?_))
 rw[show hasP o=false from by unfold hasP; simp_all]
 exact⟨rfl,(bt b2 b7)⟩
theorem pErr_k3 {o:OpA}(h:hasP o=true):o.kind=1∨o.kind=2∨o.kind=3∨o.kind=4:=by
 unfold hasP at h
 by_cases a1:o.kind=1
 ·exact .inl a1
 by_cases a2:o.kind=2
 ·exact .inr (.inl a2)
 by_cases a3:o.kind=3
 ·exact .inr (.inr (.inl a3))
 by_cases a4:o.kind=4
 ·exact .inr (.inr (.inr a4))
 rw[if_neg a1,if_neg a2,if_neg a3,if_neg a4]at h; cases h
theorem pErr_small {o:OpA}(h:hasP o=true)(k1:¬o.kind=1)(k2:¬o.kind=2):pErr o=if o.count<1 then 9 else if 1099511627776<o.count then 11 else if o.kind=4 then 0 else chkA true o.attrs:=by
 unfold pErr
 rw[if_neg (by rw[h]; decide),if_neg (by omega)]
theorem pErr_has {o:OpA}(h:hasP o=false):pErr o=9:=if_pos h
set_option maxHeartbeats 2000000 in
theorem piece_any (o:OpA)(A:Option Addr)(c:Nat)(w:World)(hA:kAttr.C w A o.attrs.length o.attrs)(hz:opSz o)(hT:Tabs w)(es:List Addr)(hE:ErrsO w es):Calls Tryz.prog 74 #[.agg (o7A o (.slice A o.attrs.length c))] w fun e w'=>∃ v,e=.returned (.tuple #[v,errV es (pErr o)])∧(pErr o=0→kPiece.M w' w.heap.size (OkFrom w.heap.size) (pOf o) [v])∧(pErr o≠0→v=.nilIface)∧Below w.heap.size w w':=by
 have hz1:=hz.1
 have hz2:=hz.2.1
 have hz3:=hz.2.2.1
 refine en Tryz.func74 rfl 53 [(0,.agg (o7A o (aL A o.attrs c)))] (fun R_ hR_=>?_)
 refine sg (xwe 1 [] [(1,pw w.heap.size 0)] (w.alloc (.cells (o7A o (aL A o.attrs c)) 70)) [] trivial ?_)
 obtain⟨w1,w5,b2,k3,z4⟩:=new_world w (o7A o (aL A o.attrs c)) 70
 rw[w5]
 refine xr0 2 [] [] ?_
 refine nl (sq (sg (xr 1 [(5,.load (.agg (o7A o (aL A o.attrs c))))] [(5,.agg (o7A o (aL A o.attrs c)))] [] [la 70 (⟨w.heap.size,0,none⟩) (.agg (o7A o (aL A o.attrs c))) w1] ⟨loadsB rfl rfl k3 0 ⟨by kernel_rfl,by kernel_rfl⟩,trivial⟩ ?_)))
 refine xc 93 ent93 [.agg (o7A o (aL A o.attrs c))] (has_anyO o _ _ _ (Kd.C_below hA b2) hz) ?_
 rintro e w_6 ⟨rfl,b7⟩; refine⟨_,rfl,?_⟩
 by_cases c8:hasP o=true
 ·rw[show (hasP o:Bool)=true from by simpa using c8]
  refine xr0 1 [(7,bF)] [5,6] ?_
  refine nl (cf (sk (sq (sg (xr1 2 [(10,.load (i6 o.kind))] [(10,i6 o.kind)] [7] (lc 3 (Blk.below k3 b7) 0) ?_)))))
  by_cases c9:o.kind=1
  ·refine xr1 6 [(11,.eq bT)] [(16,bT)] [10] (bE c9) ?_
   refine nl (ct (sg (xe 1 [(17,.load (.agg (o7A o (aL A o.attrs c))))] [(17,.agg (o7A o (aL A o.attrs c)))] [la 70 (⟨w.heap.size,0,none⟩) (.agg (o7A o (aL A o.attrs c))) w_6] ⟨loadsB rfl rfl (Blk.below k3 b7) 0 ⟨by kernel_rfl,by kernel_rfl⟩,trivial⟩ ?_)))
   refine xc 94 ent94 [.agg (o7A o (aL A o.attrs c))] (cof_any o _ _ _ (Kd.C_below hA (bt b2 b7)) hz (hT.below (bt b2 b7)) es (hE.i.below (bt b2 b7))) ?_
   rintro e w13 ⟨v10,rfl,M11,N12,b14⟩; refine⟨_,rfl,?_⟩
   refine xe0 4 [(2,v10),(3,errV es (refuseP o))] ?_
   refine nl (X_ret (rj [v10,errV es (refuseP o)] hR_ ?_))
   have hpe:pErr o=refuseP o:=by unfold pErr; simp_all
   rw[hpe]
   exact⟨_,rfl,fun h_=>kPiece.M_mono (fun _ k_=>Nat.le_trans ((bt b2 b7)).size k_) (kPiece.M_lower ((bt b2 b7)).size (M11 h_)),N12,(bt (bt b2 b7) b14)⟩
  refine xr 4 [(11,.eq bF),(14,.load (i6 o.kind))] [(12,bF),(14,i6 o.kind)] [10] [_,_] ⟨bN c9,lc 3 (Blk.below k3 b7) 0,trivial⟩ ?_
  by_cases c15:o.kind=2
  ·refine xe1 2 [(15,.eq bT)] [(1,pw w.heap.size 0),(16,bT)] (bE c15) ?_
   refine nl (ct (sg (xe 1 [(17,.load (.agg (o7A o (aL A o.attrs c))))] [(17,.agg (o7A o (aL A o.attrs c)))] [la 70 (⟨w.heap.size,0,none⟩) (.agg (o7A o (aL A o.attrs c))) w_6] ⟨loadsB rfl rfl (Blk.below k3 b7) 0 ⟨by kernel_rfl,by kernel_rfl⟩,trivial⟩ ?_)))
   refine xc 94 ent94 [.agg (o7A o (aL A o.attrs c))] (cof_any o _ _ _ (Kd.C_below hA (bt b2 b7)) hz (hT.below (bt b2 b7)) es (hE.i.below (bt b2 b7))) ?_
   rintro e w_19 ⟨v16,rfl,M17,N18,b20⟩; refine⟨_,rfl,?_⟩
   refine xe0 4 [(2,v16),(3,errV es (refuseP o))] ?_
   refine nl (X_ret (rj [v16,errV es (refuseP o)] hR_ ?_))
   have hpe:pErr o=refuseP o:=by unfold pErr; simp_all
   rw[hpe]
   exact⟨_,rfl,fun h_=>kPiece.M_mono (fun _ k_=>Nat.le_trans ((bt b2 b7)).size k_) (kPiece.M_lower ((bt b2 b7)).size (M17 h_)),N18,(bt (bt b2 b7) b20)⟩
  refine xe1 2 [(15,.eq bF)] [(1,pw w.heap.size 0),(16,bF)] (bN c15) ?_
  refine nl (cf (sk (sq (bk (sg (xr1 2 [(23,.load (i6 o.count))] [(23,i6 o.count)] [16] (lc 3 (Blk.below k3 b7) 5) ?_))))))
  by_cases c21:o.count<1
  ·refine xr1 2 [(24,.eq bT)] [(21,bT)] [23] (dT c21) ?_
   refine nl (ct (sq (X_still (by kernel_rfl) (by kernel_rfl) (fun wd22 b23 h24=>?_))))
   refine xse 3 [(25,.load (.iface 208 (.pointer (some (errAt es 9)))))] [(2,.nilIface),(3,.iface 208 (.pointer (some (errAt es 9))))] [la 45 (⟨11,0,none⟩) (.iface 208 (.pointer (some (errAt es 9)))) wd22] ⟨loads1 rfl (((bt (bt b2 b7) b23).cell (World.block_lt_of_cell? _ _ (hE.load 9 11 (by decide) (by decide) rfl))).trans (hE.load 9 11 (by decide) (by decide) rfl)),trivial⟩ ?_
   refine XS_nil ?_
   refine X_ret (rj [.nilIface,.iface 208 (.pointer (some (errAt es 9)))] hR_ ?_)
   have hpe:pErr o=9:=by rw[pErr_small c8 c9 c15]; first|(rw[if_pos (by omega)]; done)|(rw[if_neg (by omega),if_pos (by omega)]; done)|(rw[if_neg (by omega),if_neg (by omega),if_pos (by omega)]; done)|(rw[if_neg (by omega),if_neg (by omega),if_neg (by omega)]<;>assumption)
   rw[hpe]
   exact⟨_,rfl,fun h_=>absurd h_ (by decide),fun _=>rfl,(bt (bt b2 b7) b23)⟩
  refine xr1 2 [(24,.eq bF)] [(21,bF)] [23] (dF c21) ?_
  refine nl (cf (sg (xr1 2 [(28,.load (i6 o.count))] [(28,i6 o.count)] [21] (lc 3 (Blk.below k3 b7) 5) ?_)))
  by_cases c25:o.count>1099511627776
  ·refine xr1 2 [(29,.eq bT)] [(26,bT)] [28] (dT c25) ?_
   refine nl (ct (sq (X_still (by kernel_rfl) (by kernel_rfl) (fun wd26 b27 h28=>?_))))
   refine xse 3 [(30,.load (.iface 208 (.pointer (some (errAt es 11)))))] [(2,.nilIface),(3,.iface 208 (.pointer (some (errAt es 11))))] [la 45 (⟨3,0,none⟩) (.iface 208 (.pointer (some (errAt es 11)))) wd26] ⟨loads1 rfl (((bt (bt b2 b7) b27).cell (World.block_lt_of_cell? _ _ (hE.load 11 3 (by decide) (by decide) rfl))).trans (hE.load 11 3 (by decide) (by decide) rfl)),trivial⟩ ?_
   refine XS_nil ?_
   refine X_ret (rj [.nilIface,.iface 208 (.pointer (some (errAt es 11)))] hR_ ?_)
   have hpe:pErr o=11:=by rw[pErr_small c8 c9 c15]; first|(rw[if_pos (by omega)]; done)|(rw[if_neg (by omega),if_pos (by omega)]; done)|(rw[if_neg (by omega),if_neg (by omega),if_pos (by omega)]; done)|(rw[if_neg (by omega),if_neg (by omega),if_neg (by omega)]<;>assumption)
   rw[hpe]
   exact⟨_,rfl,fun h_=>absurd h_ (by decide),fun _=>rfl,(bt (bt b2 b7) b27)⟩
  refine xr1 2 [(29,.eq bF)] [(26,bF)] [28] (dF c25) ?_
  refine nl (cf (sg (xr1 2 [(33,.load (i6 o.kind))] [(33,i6 o.kind)] [26] (lc 3 (Blk.below k3 b7) 0) ?_)))
  by_cases c29:o.kind=4
  ·refine xe1 2 [(34,.eq bT)] [(1,pw w.heap.size 0),(31,bT)] (bE c29) ?_
   refine nl (ct (sg (xe1 6 [(36,.load (i6 o.count))] [(2,.iface 126 (.agg #[i6 o.count])),(3,.nilIface)] (lc 3 (Blk.below k3 b7) 5) ?_)))
   refine nl (X_ret (rj [.iface 126 (.agg #[i6 o.count]),.nilIface] hR_ ?_))
   have hp0:pErr o=0:=by rw[pErr_small c8 c9 c15]; first|(rw[if_pos (by omega)]; done)|(rw[if_neg (by omega),if_pos (by omega)]; done)|(rw[if_neg (by omega),if_neg (by omega),if_pos (by omega)]; done)|(rw[if_neg (by omega),if_neg (by omega),if_neg (by omega)]<;>assumption)
   have hkk:o.kind=4:=c29
   rw[hp0,pOf_del hkk]
   exact⟨_,rfl,fun _=>kPiece_Mdel,fun h_=>absurd rfl h_,(bt b2 b7)⟩
  refine xe1 2 [(34,.eq bF)] [(1,pw w.heap.size 0),(31,bF)] (bN c29) ?_
  refine nl (cf (sk (sq (sg (xr1 2 [(40,.load (aL A o.attrs c))] [(40,aL A o.attrs c)] [31] (lc 68 (Blk.below k3 b7) 6) ?_)))))
  refine xc 95 ent95 [.slice A o.attrs.length c,bT] (acheck_any _ _ o.attrs true _ (Kd.C_below hA (bt b2 b7)) hz.a (hT.below (bt b2 b7)) es (hE.i.a.below (bt b2 b7))) ?_
  rintro e w30 ⟨rfl,b31⟩; refine⟨_,rfl,?_⟩
  refine xr0 1 [(4,errV es (chkA true o.attrs))] [40,41] ?_
  refine nl (sg (xr0 1 [(42,errV es (chkA true o.attrs))] [] ?_))
  by_cases c32:(chkA true o.attrs)=0
  ·rw[show errV es (chkA true o.attrs)=.nilIface from by rw[c32]; rfl]
   refine xr0 1 [(4,.nilIface),(43,bF)] [42] ?_
   refine nl (cf (sk (sq (X_grow [] 10 (tf 0 10) (by kernel_rfl) (by kernel_rfl) (by kernel_rfl) (fun wd33 b34 h35=>?_)))))
   refine XB_run (fuel':=6) (Below.refl _ _) [0,1,4,5] [(46,.load (aL A o.attrs c)),(50,.load (i6 o.count))] [pw w.heap.size 6,.slice A o.attrs.length c,pw w.heap.size 5,i6 o.count] #[true,true,false,false,true,true,false,false,false,false] [(46,aL A o.attrs c),(50,i6 o.count)] (fun w_=>[la 68 (⟨w.heap.size,6,none⟩) (aL A o.attrs c) w_,la 3 (⟨w.heap.size,5,none⟩) (i6 o.count) w_]) (fun w_ hC_=>⟨loads1 rfl (Blk.cell (Blk.below k3 (bt (bt (bt b7 b31) b34) hC_)) 6 _ rfl),loads1 rfl (Blk.cell (Blk.below k3 (bt (bt (bt b7 b31) b34) hC_)) 5 _ rfl),trivial⟩) ?_
   refine XB_mid (fuel':=5) 2 #[true,true,true,false,true,true,false,false,false,false] _ rfl (by kernel_rfl) (by kernel_rfl) rfl ?_
   refine xc 96 ent96 [aL A o.attrs c] (clone_any _ _ o.attrs _ (Kd.C_below hA (bt (bt (bt b2 b7) b31) b34)) (by omega)) ?_
   rintro e w38 ⟨A36,c37,rfl,l40,r41,b39⟩; refine⟨_,rfl,?_⟩
   refine nl ?_
   refine⟨b39,?_⟩
   refine XB_run (fuel':=0) b39 [3,6,7,8,9] [] [.agg #[aL A36 o.attrs c37],.agg #[.slice A36 o.attrs.length c37,i6 o.count],.iface 131 (.agg #[.slice A36 o.attrs.length c37,i6 o.count]),.iface 131 (.agg #[.slice A36 o.attrs.length c37,i6 o.count]),.nilIface] (tf 10 0) [(2,.iface 131 (.agg #[.slice A36 o.attrs.length c37,i6 o.count])),(3,.nilIface)] (fun w_=>[]) (fun w_ hC_=>trivial) ?_
   refine XB_done (by kernel_rfl) ?_
   refine X_ret (rj [.iface 131 (.agg #[.slice A36 o.attrs.length c37,i6 o.count]),.nilIface] hR_ ?_)
   have B42:Below w.heap.size w w38:=(bt (bt (bt (bt b2 b7) b31) b34) b39)
   have hp0:pErr o=0:=by rw[pErr_small c8 c9 c15]; first|(rw[if_pos (by omega)]; done)|(rw[if_neg (by omega),if_pos (by omega)]; done)|(rw[if_neg (by omega),if_neg (by omega),if_pos (by omega)]; done)|(rw[if_neg (by omega),if_neg (by omega),if_neg (by omega)]<;>assumption)
   have hkk:o.kind=3:=(by have h_:=pErr_k3 c8; omega)
   rw[hp0,pOf_ret hkk]
   exact⟨_,rfl,fun _=>kPiece_Mret ⟨_,rfl,Kd.R_low r41 ((bt (bt (bt b2 b7) b31) b34)).size⟩,fun h_=>absurd rfl h_,B42⟩
  rw[errV_pos es (chkA true o.attrs) (Nat.pos_of_ne_zero c32)]
  refine xr0 1 [(4,.iface 208 (.pointer (some (errAt es (chkA true o.attrs))))),(43,bT)] [42] ?_
  refine nl (ct (sg (xe0 3 [(2,.nilIface),(3,.iface 208 (.pointer (some (errAt es (chkA true o.attrs)))))] ?_)))
  refine nl (X_ret (rj [.nilIface,.iface 208 (.pointer (some (errAt es (chkA true o.attrs))))] hR_ ?_))
  have hpe:pErr o=(chkA true o.attrs):=by rw[pErr_small c8 c9 c15]; first|(rw[if_pos (by omega)]; done)|(rw[if_neg (by omega),if_pos (by omega)]; done)|(rw[if_neg (by omega),if_neg (by omega),if_pos (by omega)]; done)|(rw[if_neg (by omega),if_neg (by omega),if_neg (by omega)]<;>assumption)
  rw[hpe,errV_pos es _ (Nat.pos_of_ne_zero c32)]
  exact⟨_,rfl,fun h_=>absurd h_ c32,fun _=>rfl,(bt (bt b2 b7) b31)⟩
 rw[show (hasP o:Bool)=false from by simpa using c8]
 refine xr0 1 [(7,bT)] [5,6] ?_
 refine nl (ct (sq (X_still (by kernel_rfl) (by kernel_rfl) (fun wd43 b44 h45=>?_))))
 refine xse 3 [(8,.load (.iface 208 (.pointer (some (errAt es 9)))))] [(2,.nilIface),(3,.iface 208 (.pointer (some (errAt es 9))))] [la 45 (⟨11,0,none⟩) (.iface 208 (.pointer (some (errAt es 9)))) wd43] ⟨loads1 rfl (((bt (bt b2 b7) b44).cell (World.block_lt_of_cell? _ _ (hE.load 9 11 (by decide) (by decide) rfl))).trans (hE.load 9 11 (by decide) (by decide) rfl)),trivial⟩ ?_
 refine XS_nil ?_
 refine X_ret (rj [.nilIface,.iface 208 (.pointer (some (errAt es 9)))] hR_ ?_)
 have hp9:pErr o=9:=pErr_has (Bool.eq_false_iff.2 c8)
 rw[hp9]
 exact⟨_,rfl,fun h_=>absurd h_ (by decide),fun _=>rfl,(bt (bt b2 b7) b44)⟩
end Go.Proofs.YtlnnjfdonilgmaaGreatDoor
