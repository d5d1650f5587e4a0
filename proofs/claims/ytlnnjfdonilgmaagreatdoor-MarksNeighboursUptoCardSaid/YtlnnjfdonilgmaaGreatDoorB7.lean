import Derived.Test.YtlnnjfdonilgmaaGreatDoorB1
import Derived.Test.YtlnnjfdonilgmaaGreatDoorUtf4
import Derived.Test.YtlnnjfdonilgmaaGreatDoorAn2
import Derived.Test.YtlnnjfdonilgmaaGreatDoorMap
/- What vellumref01 answers. Conditions: sizes. -/
set_option linter.unusedVariables false
set_option linter.unusedSimpArgs false
set_option maxRecDepth 100000
namespace Go.Proofs.YtlnnjfdonilgmaaGreatDoor
open Go Go.RowKit Go.Proofs.YtlnnjfdonilgmaaGreatDoorW.PrintWords RX
theorem ent108 :Ent Tryz.prog 108:=ent_of Tryz.func108 (by kernel_rfl) rfl
theorem ent109 :Ent Tryz.prog 109:=ent_of Tryz.func109 (by kernel_rfl) rfl
theorem ent92 :Ent Tryz.prog 92:=ent_of Tryz.func92 (by kernel_rfl) rfl
theorem ent73 :Ent Tryz.prog 73:=ent_of Tryz.func73 (by kernel_rfl) rfl
theorem ent56 :Ent Tryz.prog 56:=ent_of Tryz.func56 (by kernel_rfl) rfl
theorem ent69 :Ent Tryz.prog 69:=ent_of Tryz.func69 (by kernel_rfl) rfl
theorem tmN {k:IntKind}(b c:Nat):Value.int k (Int.tmod (b:Int) (c:Int))=.int k ((b%c:Nat):Int):=by rw[Int.tmod_eq_emod_of_nonneg (by omega)]; rfl
theorem tdN (b c:Nat)(h:b≤2147483647):Value.int .i32 (IntKind.i32.wrap (Int.tdiv (b:Int) (c:Int)))=.int .i32 ((b/c:Nat):Int):=by
 have key:∀ q:Nat,q≤2147483647→Value.int .i32 (IntKind.i32.wrap (q:Int))=.int .i32 (q:Int):=fun q hq=>by rw[IntWalk.i32_in _ ⟨by omega,by omega⟩]
 rw[Int.tdiv_eq_ediv_of_nonneg (by omega)]
 exact key _ (Nat.le_trans (Nat.div_le_self b c) h)
theorem refScalar_any (r:Int)(w:World):Rt 108 #[.int .i32 r] w (.bool (decide (U.vz r))):=by
 refine en Tryz.func108 rfl 17 [(0,.int .i32 r)] (fun R_ hR_=>?_)
 refine sg (xe0 1 [(0,.int .i32 r)] ?_)
 refine nl (sg (xr0 1 [(3,.int .i32 r)] [] ?_))
 by_cases c1:r≥0
 ·refine xr1 3 [(4,.eq bT)] [(5,bT),(6,.int .i32 r)] [3] (dT c1) ?_
  by_cases c2:r<55296
  ·refine xe1 11 [(7,.eq bT)] [(2,bT)] (dT c2) ?_
   refine nl (X_ret (rj [bT] hR_ ?_))
   rw[decide_eq_true (by unfold U.vz U.vr; omega)]
   exact⟨rfl,(Below.refl _ _)⟩
  refine xr1 4 [(7,.eq bF)] [(9,bF),(10,.int .i32 r)] [5,6] (dF c2) ?_
  by_cases c3:r≥57344
  ·refine xr1 3 [(11,.eq bT)] [(12,bT),(13,.int .i32 r)] [0,10] (dT c3) ?_
   by_cases c4:r≤1114111
   ·refine xe1 4 [(14,.eq bT)] [(2,bT)] (dT c4) ?_
    refine nl (X_ret (rj [bT] hR_ ?_))
    rw[decide_eq_true (by unfold U.vz U.vr; omega)]
    exact⟨rfl,(Below.refl _ _)⟩
   refine xe1 4 [(14,.eq bF)] [(2,bF)] (dF c4) ?_
   refine nl (X_ret (rj [bF] hR_ ?_))
   rw[decide_eq_false (by unfold U.vz U.vr; omega)]
   exact⟨rfl,(Below.refl _ _)⟩
  refine xe1 7 [(11,.eq bF)] [(2,bF)] (dF c3) ?_
  refine nl (X_ret (rj [bF] hR_ ?_))
  rw[decide_eq_false (by unfold U.vz U.vr; omega)]
  exact⟨rfl,(Below.refl _ _)⟩
 refine xr1 7 [(4,.eq bF)] [(9,bF),(10,.int .i32 r)] [3] (dF c1) ?_
 by_cases c5:r≥57344
 ·refine xr1 3 [(11,.eq bT)] [(12,bT),(13,.int .i32 r)] [0,10] (dT c5) ?_
  by_cases c6:r≤1114111
  ·refine xe1 4 [(14,.eq bT)] [(2,bT)] (dT c6) ?_
   refine nl (X_ret (rj [bT] hR_ ?_))
   rw[decide_eq_true (by unfold U.vz U.vr; omega)]
   exact⟨rfl,(Below.refl _ _)⟩
  refine xe1 4 [(14,.eq bF)] [(2,bF)] (dF c6) ?_
  refine nl (X_ret (rj [bF] hR_ ?_))
  rw[decide_eq_false (by unfold U.vz U.vr; omega)]
  exact⟨rfl,(Below.refl _ _)⟩
 refine xe1 7 [(11,.eq bF)] [(2,bF)] (dF c5) ?_
 refine nl (X_ret (rj [bF] hR_ ?_))
 rw[decide_eq_false (by unfold U.vz U.vr; omega)]
 exact⟨rfl,(Below.refl _ _)⟩
theorem str_of {xs:List Int}{ys:List UInt8}(h:xs.map (fun n=>UInt8.ofNat n.toNat)=ys){m:Nat}(e:U.enc m=ys):strOfNums xs=U.encB m:=by
 unfold strOfNums U.encB
 rw[h,e]
set_option maxHeartbeats 1000000 in
theorem encode_any (k:Nat)(hv:U.vr k)(w:World):Rt 109 #[.int .i32 (k:Int)] w (sT (U.encB k)):=by
 have hv':=hv
 unfold U.vr at hv'
 refine en Tryz.func109 rfl 61 [(0,.int .i32 (k:Int))] (fun R_ hR_=>?_)
 refine sg (xe0 1 [(0,.int .i32 (k:Int))] ?_)
 refine nl (sq (bk (sg (xr0 1 [(4,.int .i32 (k:Int))] [] ?_))))
 by_cases c1:(k:Int)<128
 ·refine xr1 2 [(5,.eq bT)] [(3,bT)] [4] (dT c1) ?_
  refine nl (ct (sg (xwe 3 [(7,.eq (.int .u8 (k:Int)))] [(8,.slice (some ⟨w.heap.size,0,none⟩) 1 1)] (w.alloc (.cells #[.int .u8 (k:Int)] 5)) [Value.int .u8 (IntKind.u8.wrap ((k:Int)))=Value.int .u8 (k:Int)] ⟨wr_u8 (by omega) (by omega),trivial⟩ ?_)))
  obtain⟨w2,w6,b3,k4,z5⟩:=new_world w #[.int .u8 (k:Int)] 5
  rw[w6]
  have r7:=Kd.R_litB (Kd.int .u8) (W:=w) (e:=5) (cs:=#[.int .u8 (k:Int)]) [(k:Int)] k4 (repsInt [(k:Int)]) (Nat.le_of_ble_eq_true (by kernel_rfl))
  refine xe 2 [(9,.as (sT (strOfNums ([(k:Int)]))))] [(2,sT (strOfNums ([(k:Int)])))] [RunsAs Tryz.prog [(8,.slice (some ⟨w.heap.size,0,none⟩) 1 1)] (Go.Op.convert 55 9 (Go.Operand.tmp 8)) 9 (sT (strOfNums ([(k:Int)]))) w2] ⟨runs_conv rfl (conv_bytesC ([(k:Int)]) Tryz.underlying55 Tryz.underlying5 Tryz.underlying9 r7),trivial⟩ ?_
  refine nl (X_ret (rj [sT (strOfNums ([(k:Int)]))] hR_ ?_))
  rw[show (strOfNums ([(k:Int)]))=U.encB k from str_of (by simp only[List.map_cons,List.map_nil]; rfl) (U.enc_1 (by omega))]
  exact⟨rfl,b3⟩
 refine xr1 2 [(5,.eq bF)] [(3,bF)] [4] (dF c1) ?_
 refine nl (cf (sg (xr0 1 [(11,.int .i32 (k:Int))] [3] ?_)))
 by_cases c8:(k:Int)<2048
 ·refine xr1 2 [(12,.eq bT)] [(10,bT)] [11] (dT c8) ?_
  refine nl (ct (sg (xwe 9 [(14,.eq (.int .i32 ((k/64:Nat):Int))),(15,.eq (.int .i32 (192+((k/64:Nat):Int)))),(16,.eq (.int .u8 (192+((k/64:Nat):Int)))),(18,.eq (.int .i32 ((k%64:Nat):Int))),(19,.eq (.int .i32 (128+((k%64:Nat):Int)))),(20,.eq (.int .u8 (128+((k%64:Nat):Int))))] [(21,.slice (some ⟨w.heap.size,0,none⟩) 2 2)] (w.alloc (.cells #[.int .u8 (192+((k/64:Nat):Int)),.int .u8 (128+((k%64:Nat):Int))] 5)) [Value.int .i32 (IntKind.i32.wrap (Int.tdiv (k:Int) 64))=.int .i32 ((k/64:Nat):Int),Value.int .i32 (IntKind.i32.wrap (192+((k/64:Nat):Int)))=Value.int .i32 (192+((k/64:Nat):Int)),Value.int .u8 (IntKind.u8.wrap (192+((k/64:Nat):Int)))=Value.int .u8 (192+((k/64:Nat):Int)),Value.int .i32 (Int.tmod (k:Int) 64)=.int .i32 ((k%64:Nat):Int),Value.int .i32 (IntKind.i32.wrap (128+((k%64:Nat):Int)))=Value.int .i32 (128+((k%64:Nat):Int)),Value.int .u8 (IntKind.u8.wrap (128+((k%64:Nat):Int)))=Value.int .u8 (128+((k%64:Nat):Int))] ⟨tdN k 64 (by omega),wr_i32 (by omega) (by omega),wr_u8 (by omega) (by omega),tmN k 64,wr_i32 (by omega) (by omega),wr_u8 (by omega) (by omega),trivial⟩ ?_)))
  obtain⟨w9,w13,b10,k11,z12⟩:=new_world w #[.int .u8 (192+((k/64:Nat):Int)),.int .u8 (128+((k%64:Nat):Int))] 5
  rw[w13]
  have r14:=Kd.R_litB (Kd.int .u8) (W:=w) (e:=5) (cs:=#[.int .u8 (192+((k/64:Nat):Int)),.int .u8 (128+((k%64:Nat):Int))]) [192+((k/64:Nat):Int),128+((k%64:Nat):Int)] k11 (repsInt [192+((k/64:Nat):Int),128+((k%64:Nat):Int)]) (Nat.le_of_ble_eq_true (by kernel_rfl))
  refine xe 2 [(22,.as (sT (strOfNums ([192+((k/64:Nat):Int),128+((k%64:Nat):Int)]))))] [(2,sT (strOfNums ([192+((k/64:Nat):Int),128+((k%64:Nat):Int)])))] [RunsAs Tryz.prog [(21,.slice (some ⟨w.heap.size,0,none⟩) 2 2)] (Go.Op.convert 55 9 (Go.Operand.tmp 21)) 9 (sT (strOfNums ([192+((k/64:Nat):Int),128+((k%64:Nat):Int)]))) w9] ⟨runs_conv rfl (conv_bytesC ([192+((k/64:Nat):Int),128+((k%64:Nat):Int)]) Tryz.underlying55 Tryz.underlying5 Tryz.underlying9 r14),trivial⟩ ?_
  refine nl (X_ret (rj [sT (strOfNums ([192+((k/64:Nat):Int),128+((k%64:Nat):Int)]))] hR_ ?_))
  rw[show (strOfNums ([192+((k/64:Nat):Int),128+((k%64:Nat):Int)]))=U.encB k from str_of (by simp only[List.map_cons,List.map_nil]; rfl) (U.enc_2 (by omega) (by omega))]
  exact⟨rfl,b10⟩
 refine xr1 2 [(12,.eq bF)] [(10,bF)] [11] (dF c8) ?_
 refine nl (cf (sg (xr0 1 [(24,.int .i32 (k:Int))] [10] ?_)))
 by_cases c15:(k:Int)<65536
 ·refine xe1 2 [(25,.eq bT)] [(0,.int .i32 (k:Int)),(23,bT)] (dT c15) ?_
  refine nl (ct (sg (xwe 14 [(27,.eq (.int .i32 ((k/4096:Nat):Int))),(28,.eq (.int .i32 (224+((k/4096:Nat):Int)))),(29,.eq (.int .u8 (224+((k/4096:Nat):Int)))),(31,.eq (.int .i32 ((k/64:Nat):Int))),(32,.eq (.int .i32 (((k/64)%64:Nat):Int))),(33,.eq (.int .i32 (128+(((k/64)%64:Nat):Int)))),(34,.eq (.int .u8 (128+(((k/64)%64:Nat):Int)))),(36,.eq (.int .i32 ((k%64:Nat):Int))),(37,.eq (.int .i32 (128+((k%64:Nat):Int)))),(38,.eq (.int .u8 (128+((k%64:Nat):Int))))] [(39,.slice (some ⟨w.heap.size,0,none⟩) 3 3)] (w.alloc (.cells #[.int .u8 (224+((k/4096:Nat):Int)),.int .u8 (128+(((k/64)%64:Nat):Int)),.int .u8 (128+((k%64:Nat):Int))] 5)) [Value.int .i32 (IntKind.i32.wrap (Int.tdiv (k:Int) 4096))=.int .i32 ((k/4096:Nat):Int),Value.int .i32 (IntKind.i32.wrap (224+((k/4096:Nat):Int)))=Value.int .i32 (224+((k/4096:Nat):Int)),Value.int .u8 (IntKind.u8.wrap (224+((k/4096:Nat):Int)))=Value.int .u8 (224+((k/4096:Nat):Int)),Value.int .i32 (IntKind.i32.wrap (Int.tdiv (k:Int) 64))=.int .i32 ((k/64:Nat):Int),Value.int .i32 (Int.tmod ((k/64:Nat):Int) 64)=.int .i32 (((k/64)%64:Nat):Int),Value.int .i32 (IntKind.i32.wrap (128+(((k/64)%64:Nat):Int)))=Value.int .i32 (128+(((k/64)%64:Nat):Int)),Value.int .u8 (IntKind.u8.wrap (128+(((k/64)%64:Nat):Int)))=Value.int .u8 (128+(((k/64)%64:Nat):Int)),Value.int .i32 (Int.tmod (k:Int) 64)=.int .i32 ((k%64:Nat):Int),Value.int .i32 (IntKind.i32.wrap (128+((k%64:Nat):Int)))=Value.int .i32 (128+((k%64:Nat):Int)),Value.int .u8 (IntKind.u8.wrap (128+((k%64:Nat):Int)))=Value.int .u8 (128+((k%64:Nat):Int))] ⟨tdN k 4096 (by omega),wr_i32 (by omega) (by omega),wr_u8 (by omega) (by omega),tdN k 64 (by omega),tmN (k/64) 64,wr_i32 (by omega) (by omega),wr_u8 (by omega) (by omega),tmN k 64,wr_i32 (by omega) (by omega),wr_u8 (by omega) (by omega),trivial⟩ ?_)))
  obtain⟨w16,w20,b17,k18,z19⟩:=new_world w #[.int .u8 (224+((k/4096:Nat):Int)),.int .u8 (128+(((k/64)%64:Nat):Int)),.int .u8 (128+((k%64:Nat):Int))] 5
  rw[w20]
  have r21:=Kd.R_litB (Kd.int .u8) (W:=w) (e:=5) (cs:=#[.int .u8 (224+((k/4096:Nat):Int)),.int .u8 (128+(((k/64)%64:Nat):Int)),.int .u8 (128+((k%64:Nat):Int))]) [224+((k/4096:Nat):Int),128+(((k/64)%64:Nat):Int),128+((k%64:Nat):Int)] k18 (repsInt [224+((k/4096:Nat):Int),128+(((k/64)%64:Nat):Int),128+((k%64:Nat):Int)]) (Nat.le_of_ble_eq_true (by kernel_rfl))
  refine xe 2 [(40,.as (sT (strOfNums ([224+((k/4096:Nat):Int),128+(((k/64)%64:Nat):Int),128+((k%64:Nat):Int)]))))] [(2,sT (strOfNums ([224+((k/4096:Nat):Int),128+(((k/64)%64:Nat):Int),128+((k%64:Nat):Int)])))] [RunsAs Tryz.prog [(39,.slice (some ⟨w.heap.size,0,none⟩) 3 3)] (Go.Op.convert 55 9 (Go.Operand.tmp 39)) 9 (sT (strOfNums ([224+((k/4096:Nat):Int),128+(((k/64)%64:Nat):Int),128+((k%64:Nat):Int)]))) w16] ⟨runs_conv rfl (conv_bytesC ([224+((k/4096:Nat):Int),128+(((k/64)%64:Nat):Int),128+((k%64:Nat):Int)]) Tryz.underlying55 Tryz.underlying5 Tryz.underlying9 r21),trivial⟩ ?_
  refine nl (X_ret (rj [sT (strOfNums ([224+((k/4096:Nat):Int),128+(((k/64)%64:Nat):Int),128+((k%64:Nat):Int)]))] hR_ ?_))
  rw[show (strOfNums ([224+((k/4096:Nat):Int),128+(((k/64)%64:Nat):Int),128+((k%64:Nat):Int)]))=U.encB k from str_of (by simp only[List.map_cons,List.map_nil]; rfl) (U.enc_3 (by unfold U.vr; omega) (by omega) (by omega))]
  exact⟨rfl,b17⟩
 refine xe1 2 [(25,.eq bF)] [(0,.int .i32 (k:Int)),(23,bF)] (dF c15) ?_
 refine nl (cf (sk (sg (xwe 19 [(42,.eq (.int .i32 ((k/262144:Nat):Int))),(43,.eq (.int .i32 (240+((k/262144:Nat):Int)))),(44,.eq (.int .u8 (240+((k/262144:Nat):Int)))),(46,.eq (.int .i32 ((k/4096:Nat):Int))),(47,.eq (.int .i32 (((k/4096)%64:Nat):Int))),(48,.eq (.int .i32 (128+(((k/4096)%64:Nat):Int)))),(49,.eq (.int .u8 (128+(((k/4096)%64:Nat):Int)))),(51,.eq (.int .i32 ((k/64:Nat):Int))),(52,.eq (.int .i32 (((k/64)%64:Nat):Int))),(53,.eq (.int .i32 (128+(((k/64)%64:Nat):Int)))),(54,.eq (.int .u8 (128+(((k/64)%64:Nat):Int)))),(56,.eq (.int .i32 ((k%64:Nat):Int))),(57,.eq (.int .i32 (128+((k%64:Nat):Int)))),(58,.eq (.int .u8 (128+((k%64:Nat):Int))))] [(59,.slice (some ⟨w.heap.size,0,none⟩) 4 4)] (w.alloc (.cells #[.int .u8 (240+((k/262144:Nat):Int)),.int .u8 (128+(((k/4096)%64:Nat):Int)),.int .u8 (128+(((k/64)%64:Nat):Int)),.int .u8 (128+((k%64:Nat):Int))] 5)) [Value.int .i32 (IntKind.i32.wrap (Int.tdiv (k:Int) 262144))=.int .i32 ((k/262144:Nat):Int),Value.int .i32 (IntKind.i32.wrap (240+((k/262144:Nat):Int)))=Value.int .i32 (240+((k/262144:Nat):Int)),Value.int .u8 (IntKind.u8.wrap (240+((k/262144:Nat):Int)))=Value.int .u8 (240+((k/262144:Nat):Int)),Value.int .i32 (IntKind.i32.wrap (Int.tdiv (k:Int) 4096))=.int .i32 ((k/4096:Nat):Int),Value.int .i32 (Int.tmod ((k/4096:Nat):Int) 64)=.int .i32 (((k/4096)%64:Nat):Int),Value.int .i32 (IntKind.i32.wrap (128+(((k/4096)%64:Nat):Int)))=Value.int .i32 (128+(((k/4096)%64:Nat):Int)),Value.int .u8 (IntKind.u8.wrap (128+(((k/4096)%64:Nat):Int)))=Value.int .u8 (128+(((k/4096)%64:Nat):Int)),Value.int .i32 (IntKind.i32.wrap (Int.tdiv (k:Int) 64))=.int .i32 ((k/64:Nat):Int),Value.int .i32 (Int.tmod ((k/64:Nat):Int) 64)=.int .i32 (((k/64)%64:Nat):Int),Value.int .i32 (IntKind.i32.wrap (128+(((k/64)%64:Nat):Int)))=Value.int .i32 (128+(((k/64)%64:Nat):Int)),Value.int .u8 (IntKind.u8.wrap (128+(((k/64)%64:Nat):Int)))=Value.int .u8 (128+(((k/64)%64:Nat):Int)),Value.int .i32 (Int.tmod (k:Int) 64)=.int .i32 ((k%64:Nat):Int),Value.int .i32 (IntKind.i32.wrap (128+((k%64:Nat):Int)))=Value.int .i32 (128+((k%64:Nat):Int)),Value.int .u8 (IntKind.u8.wrap (128+((k%64:Nat):Int)))=Value.int .u8 (128+((k%64:Nat):Int))] ⟨tdN k 262144 (by omega),wr_i32 (by omega) (by omega),wr_u8 (by omega) (by omega),tdN k 4096 (by omega),tmN (k/4096) 64,wr_i32 (by omega) (by omega),wr_u8 (by omega) (by omega),tdN k 64 (by omega),tmN (k/64) 64,wr_i32 (by omega) (by omega),wr_u8 (by omega) (by omega),tmN k 64,wr_i32 (by omega) (by omega),wr_u8 (by omega) (by omega),trivial⟩ ?_))))
 obtain⟨w22,w26,b23,k24,z25⟩:=new_world w #[.int .u8 (240+((k/262144:Nat):Int)),.int .u8 (128+(((k/4096)%64:Nat):Int)),.int .u8 (128+(((k/64)%64:Nat):Int)),.int .u8 (128+((k%64:Nat):Int))] 5
 rw[w26]
 have r27:=Kd.R_litB (Kd.int .u8) (W:=w) (e:=5) (cs:=#[.int .u8 (240+((k/262144:Nat):Int)),.int .u8 (128+(((k/4096)%64:Nat):Int)),.int .u8 (128+(((k/64)%64:Nat):Int)),.int .u8 (128+((k%64:Nat):Int))]) [240+((k/262144:Nat):Int),128+(((k/4096)%64:Nat):Int),128+(((k/64)%64:Nat):Int),128+((k%64:Nat):Int)] k24 (repsInt [240+((k/262144:Nat):Int),128+(((k/4096)%64:Nat):Int),128+(((k/64)%64:Nat):Int),128+((k%64:Nat):Int)]) (Nat.le_of_ble_eq_true (by kernel_rfl))
 refine xe 2 [(60,.as (sT (strOfNums ([240+((k/262144:Nat):Int),128+(((k/4096)%64:Nat):Int),128+(((k/64)%64:Nat):Int),128+((k%64:Nat):Int)]))))] [(2,sT (strOfNums ([240+((k/262144:Nat):Int),128+(((k/4096)%64:Nat):Int),128+(((k/64)%64:Nat):Int),128+((k%64:Nat):Int)])))] [RunsAs Tryz.prog [(59,.slice (some ⟨w.heap.size,0,none⟩) 4 4)] (Go.Op.convert 55 9 (Go.Operand.tmp 59)) 9 (sT (strOfNums ([240+((k/262144:Nat):Int),128+(((k/4096)%64:Nat):Int),128+(((k/64)%64:Nat):Int),128+((k%64:Nat):Int)]))) w22] ⟨runs_conv rfl (conv_bytesC ([240+((k/262144:Nat):Int),128+(((k/4096)%64:Nat):Int),128+(((k/64)%64:Nat):Int),128+((k%64:Nat):Int)]) Tryz.underlying55 Tryz.underlying5 Tryz.underlying9 r27),trivial⟩ ?_
 refine nl (X_ret (rj [sT (strOfNums ([240+((k/262144:Nat):Int),128+(((k/4096)%64:Nat):Int),128+(((k/64)%64:Nat):Int),128+((k%64:Nat):Int)]))] hR_ ?_))
 rw[show (strOfNums ([240+((k/262144:Nat):Int),128+(((k/4096)%64:Nat):Int),128+(((k/64)%64:Nat):Int),128+((k%64:Nat):Int)]))=U.encB k from str_of (by simp only[List.map_cons,List.map_nil]; rfl) (U.enc_4 (by unfold U.vr; omega) (by omega))]
 exact⟨rfl,b23⟩
end Go.Proofs.YtlnnjfdonilgmaaGreatDoor
