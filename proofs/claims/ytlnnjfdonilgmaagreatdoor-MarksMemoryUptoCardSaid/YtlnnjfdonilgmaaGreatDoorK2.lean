/- The document's marks: place, Get, Drop, Set. Conditions: sizes. -/
import Derived.Test.YtlnnjfdonilgmaaGreatDoorMrk
import Derived.Test.YtlnnjfdonilgmaaGreatDoorChg
import Derived.Test.YtlnnjfdonilgmaaGreatDoorK1
import Derived.Test.YtlnnjfdonilgmaaGreatDoorR1
set_option linter.unusedVariables false
set_option linter.unusedSimpArgs false
set_option maxRecDepth 100000
namespace Go.Proofs.YtlnnjfdonilgmaaGreatDoor
open Go Go.RowKit Go.Proofs.YtlnnjfdonilgmaaGreatDoorW.PrintWords RX
theorem ent42 :Ent Tryz.prog 42:=ent_of Tryz.func42 (by kernel_rfl) rfl
theorem ent27 :Ent Tryz.prog 27:=ent_of Tryz.func27 (by kernel_rfl) rfl
theorem ent28 :Ent Tryz.prog 28:=ent_of Tryz.func28 (by kernel_rfl) rfl
theorem ent29 :Ent Tryz.prog 29:=ent_of Tryz.func29 (by kernel_rfl) rfl
theorem info31 :(Tryz.prog.info? 31).map (fun i=>(i.zero,i.size,i.bytes))=some (some (.agg #[s0,i6 0,i6 0]),3,32):=by kernel_rfl
def nmOk (s:ByteArray):Prop:=1≤s.size∧s.size≤64∧(uchk s).2=true
noncomputable instance (s:ByteArray):Decidable (nmOk s):=Classical.propDecidable _
noncomputable def sCode (ms:List MarkA) (m:MarkA) (cells:Int):Nat:=if ¬nmOk m.1 then 6 else if m.2.1<0∨cells<m.2.1∨m.2.2<0∨cells<m.2.2 then 12 else if ¬mIn ms m.1∧64≤ms.length then 16 else 0
noncomputable def sMs (ms:List MarkA) (m:MarkA) (cells:Int):List MarkA:=if sCode ms m cells=0 then mPut ms m else ms
noncomputable def dCode (ms:List MarkA) (k:ByteArray):Nat:=if mIn ms k then 0 else 16
noncomputable def dMs (ms:List MarkA) (k:ByteArray):List MarkA:=if mIn ms k then mDel ms k else ms
noncomputable def gMk (ms:List MarkA) (k:ByteArray):MarkA:=if mIn ms k then ms.getD (mIx ms k) mark0 else mark0
theorem r23plc_any (gr:Nat)(A:Option Addr)(c:Nat)(ms:List MarkA)(k:ByteArray)(w:World)(hk:RX.Blk w gr 29 #[.slice A ms.length c])(hC:kMark.C w A ms.length ms)(hn:ms.length≤1000):Rt 42 #[pw gr 0,sT k] w (.tuple #[i6 (mIx ms k:Int),.bool (decide (mIn ms k))]):=by
 refine en Tryz.func42 rfl 48 [(0,pw gr 0),(1,sT k)] (fun R_ hR_=>?_)
 refine sg (xe0 2 [(0,pw gr 0),(1,sT k)] ?_)
 refine nl (sg (xr0 1 [(6,i6 0)] [] ?_))
 refine nl (sq (bk (X_loop (ι:=Nat) (fun i=>[(0,pw gr 0),(1,sT k),(6,i6 (i:Int))]) (fun i wl=>i≤mIx ms k∧Below w.heap.size w wl) (fun i=>ms.length-i) 0 ⟨Nat.zero_le _,(Below.refl _ _)⟩ (by kernel_rfl) ?_)))
 rintro i wl ⟨hi,HB⟩
 refine sq (sg (xr1 6 [(11,.load (aL A ms c))] [(7,nv i),(12,i6 (ms.length:Int))] [] (lc 27 (Blk.below hk HB) 0) ?_))
 by_cases c1:(i:Int)<(ms.length:Int)
 ·refine xr 7 [(13,.eq bT),(18,.load (aL A ms c))] [(14,bT),(18,aL A ms c),(19,nv i)] [7,12] [_,_] ⟨dT c1,lc 27 (Blk.below hk HB) 0,trivial⟩ ?_
  obtain⟨ad2,a3,c4⟩:=Kd.atMark (Kd.C_below hC HB) (i:=(i:Int)) (by omega) (by omega)
  replace c4:CellsAt wl (ad2.add ((i:Int).toNat*3)) [sT ((ms.getD i mark0).1),i6 ((ms.getD i mark0).2.1),i6 ((ms.getD i mark0).2.2)]:=c4
  refine xr 4 [(20,.idx ad2),(22,.load (sT ((ms.getD i mark0).1)))] [(22,sT ((ms.getD i mark0).1)),(23,sT k)] [18,19] [A=some ad2,(0:Int)≤(i:Int),(i:Int)<(ms.length:Int),la 9 (ad2.add ((i:Int).toNat*3)) (sT ((ms.getD i mark0).1)) wl] ⟨a3,(by omega),(by omega),loads1 rfl (elem_cell c4 0 _ rfl),trivial⟩ ?_
  by_cases c5:(Op.bytesLess ((ms.getD i mark0).1).toList k.toList)=true
  ·refine xr 2 [(24,.eq bT)] [(25,bT)] [14,22,23] [Value.bool (Op.bytesLess ((ms.getD i mark0).1).toList k.toList)=bT] ⟨congrArg Value.bool (c5),trivial⟩ ?_
   refine nl (ct (sk (bk (rg (xr1 3 [(27,.eq (i6 ((i:Int)+1)))] [(6,i6 ((i:Int)+1))] [25] (w6 ((i:Int)+1)) ?_)))))
   refine nl ?_
   refine⟨(i+1),by kernel_rfl,?_,?_⟩
   ·exact⟨mix_step hi (by omega) c5,HB⟩
   (try dsimp only); omega
  refine xr 2 [(24,.eq bF)] [(25,bF)] [14,22,23] [Value.bool (Op.bytesLess ((ms.getD i mark0).1).toList k.toList)=bF] ⟨congrArg Value.bool (Bool.eq_false_iff.2 (c5)),trivial⟩ ?_
  refine nl (cf (X_exit (sq (X_still (by kernel_rfl) (by kernel_rfl) (fun wd6 b7 h8=>?_)))))
  refine xsC 14 [(33,.load (aL A ms c)),(35,.eq bT),(40,.load (aL A ms c))] [(28,nv i),(36,bT),(40,aL A ms c),(41,nv i)] [0,6,25] [_,_,_] ⟨lc 27 (Blk.below hk (bt HB b7)) 0,dT c1,lc 27 (Blk.below hk (bt HB b7)) 0,trivial⟩ ?_
  obtain⟨ad9,a10,hc11⟩:=Kd.atMark (Kd.C_below hC (bt HB b7)) (i:=(i:Int)) (by omega) (by omega)
  replace hc11:CellsAt wd6 (ad9.add ((i:Int).toNat*3)) [sT ((ms.getD i mark0).1),i6 ((ms.getD i mark0).2.1),i6 ((ms.getD i mark0).2.2)]:=hc11
  refine xse 4 [(42,.idx ad9),(44,.load (sT ((ms.getD i mark0).1)))] [(28,i6 (i:Int)),(36,bT),(44,sT ((ms.getD i mark0).1)),(45,sT k)] [A=some ad9,(0:Int)≤(i:Int),(i:Int)<(ms.length:Int),la 9 (ad9.add ((i:Int).toNat*3)) (sT ((ms.getD i mark0).1)) wd6] ⟨a10,(by omega),(by omega),loads1 rfl (elem_cell hc11 0 _ rfl),trivial⟩ ?_
  by_cases c12:((ms.getD i mark0).1)=k
  ·refine xse 4 [(46,.eq bT)] [(4,i6 (i:Int)),(5,bT)] [Value.bool (((ms.getD i mark0).1).toList==k.toList)=bT] ⟨congrArg Value.bool (strEqT (c12)),trivial⟩ ?_
   refine XS_nil ?_
   refine X_ret (rj [i6 (i:Int),bT] hR_ ?_)
   have hle_:=mix_le ms k
   have hix_:i=mIx ms k:=mix_stop hi (fun h_=>by first|exact absurd h_.1 (by omega)|exact absurd h_.2 c5)
   have hin_:mIn ms k:=⟨by rw[←hix_]; omega,by rw[←hix_]; exact c12⟩
   rw[show decide (mIn ms k)=true from decide_eq_true hin_,←hix_]
   exact⟨rfl,(bt HB b7)⟩
  refine xse 4 [(46,.eq bF)] [(4,i6 (i:Int)),(5,bF)] [Value.bool (((ms.getD i mark0).1).toList==k.toList)=bF] ⟨congrArg Value.bool (strEqF (c12)),trivial⟩ ?_
  refine XS_nil ?_
  refine X_ret (rj [i6 (i:Int),bF] hR_ ?_)
  have hle_:=mix_le ms k
  have hix_:i=mIx ms k:=mix_stop hi (fun h_=>by first|exact absurd h_.1 (by omega)|exact absurd h_.2 c5)
  have hin_:¬mIn ms k:=fun h_=>c12 (by have h2_:=h_.2; rw[←hix_]at h2_; exact h2_)
  rw[show decide (mIn ms k)=false from decide_eq_false hin_,←hix_]
  exact⟨rfl,(bt HB b7)⟩
 refine xr1 13 [(13,.eq bF)] [(25,bF)] [7,12] (dF c1) ?_
 refine nl (cf (X_exit (sq (X_still (by kernel_rfl) (by kernel_rfl) (fun wd13 b14 h15=>?_)))))
 refine xsC 22 [(33,.load (aL A ms c)),(35,.eq bF)] [(4,nv i),(5,bF)] [0,1,6,25] [_,_] ⟨lc 27 (Blk.below hk (bt HB b14)) 0,dF c1,trivial⟩ ?_
 refine XS_nil ?_
 refine X_ret (rj [i6 (i:Int),bF] hR_ ?_)
 have hle_:=mix_le ms k
 have hix_:i=mIx ms k:=mix_stop hi (fun h_=>by first|exact absurd h_.1 (by omega)|exact absurd h_.1 (by omega))
 have hin_:¬mIn ms k:=fun h_=>by have h1_:=h_.1; omega
 rw[show decide (mIn ms k)=false from decide_eq_false hin_,←hix_]
 exact⟨rfl,(bt HB b14)⟩
theorem r23get_any (gr:Nat)(A:Option Addr)(c:Nat)(ms:List MarkA)(k:ByteArray)(w:World)(hk:RX.Blk w gr 29 #[.slice A ms.length c])(hC:kMark.C w A ms.length ms)(hn:ms.length≤1000):Rt 29 #[pw gr 0,sT k] w (.tuple #[mV (gMk ms k),i6 (dCode ms k:Int)]):=by
 refine en Tryz.func29 rfl 24 [(0,pw gr 0),(1,sT k)] (fun R_ hR_=>?_)
 refine sg (xwe 1 [] [(0,pw gr 0),(1,sT k),(4,pw w.heap.size 0)] (w.alloc (.cells #[s0,i6 0,i6 0] 31)) [] trivial ?_)
 obtain⟨w1,w5,b2,k3,z4⟩:=new_world w #[s0,i6 0,i6 0] 31
 rw[w5]
 refine xr0 1 [] [] ?_
 refine nl (sg (xr0 2 [(9,pw gr 0),(10,sT k)] [1] ?_))
 refine xc 42 ent42 [pw gr 0,sT k] (r23plc_any gr A c ms k _ (Blk.below hk b2) (Kd.C_below hC b2) hn) ?_
 rintro e w_6 ⟨rfl,b7⟩; refine⟨_,rfl,?_⟩
 refine xr0 5 [(6,i6 (mIx ms k:Int)),(7,.bool (decide (mIn ms k)))] [9,10,11] ?_
 refine nl (sq (sg (xr0 1 [(14,.bool (decide (mIn ms k)))] [7] ?_)))
 by_cases c8:decide (mIn ms k)=true
 ·have hin_:=of_decide_eq_true c8
  have hil_:=hin_.1
  have hle_:=mix_le ms k
  rw[show (decide (mIn ms k):Bool)=true from by simpa using c8]
  refine xr0 1 [(15,bF)] [14] ?_
  refine nl (cf (sk (sg (xe1 5 [(20,.load (aL A ms c))] [(4,pw w.heap.size 0),(20,aL A ms c),(21,i6 (mIx ms k:Int))] (lc 27 (Blk.below hk (bt b2 b7)) 0) ?_))))
  obtain⟨ad9,a10,hc11⟩:=Kd.atMark (Kd.C_below hC (bt b2 b7)) (i:=(mIx ms k:Int)) (by omega) (by omega)
  replace hc11:CellsAt w_6 (ad9.add ((mIx ms k:Int).toNat*3)) [sT ((ms.getD (mIx ms k:Int).toNat mark0).1),i6 ((ms.getD (mIx ms k:Int).toNat mark0).2.1),i6 ((ms.getD (mIx ms k:Int).toNat mark0).2.2)]:=hc11
  refine xr 2 [(22,.idx ad9),(23,.load (.agg #[sT ((ms.getD (mIx ms k:Int).toNat mark0).1),i6 ((ms.getD (mIx ms k:Int).toNat mark0).2.1),i6 ((ms.getD (mIx ms k:Int).toNat mark0).2.2)]))] [(23,.agg #[sT ((ms.getD (mIx ms k:Int).toNat mark0).1),i6 ((ms.getD (mIx ms k:Int).toNat mark0).2.1),i6 ((ms.getD (mIx ms k:Int).toNat mark0).2.2)])] [20,21] [A=some ad9,(0:Int)≤(mIx ms k:Int),(mIx ms k:Int)<(ms.length:Int),la 31 (ad9.add ((mIx ms k:Int).toNat*3)) (.agg #[sT ((ms.getD (mIx ms k:Int).toNat mark0).1),i6 ((ms.getD (mIx ms k:Int).toNat mark0).2.1),i6 ((ms.getD (mIx ms k:Int).toNat mark0).2.2)]) w_6] ⟨a10,(by omega),(by omega),loadsE rfl rfl hc11 0 ⟨by kernel_rfl,by kernel_rfl⟩,trivial⟩ ?_
  refine xst (.agg #[sT ((ms.getD (mIx ms k:Int).toNat mark0).1),i6 ((ms.getD (mIx ms k:Int).toNat mark0).2.1),i6 ((ms.getD (mIx ms k:Int).toNat mark0).2.2)]) (Blk.below k3 b7) 0 #[sT ((ms.getD (mIx ms k:Int).toNat mark0).1),i6 ((ms.getD (mIx ms k:Int).toNat mark0).2.1),i6 ((ms.getD (mIx ms k:Int).toNat mark0).2.2)] (fun w12 g13 k14 z15=>?_)
  refine xr0 1 [(5,i6 0)] [23] ?_
  refine nl (X_ret (RX.ret_cellT (P:=Tryz.prog) (fn:=Tryz.f29) (N:=24) (R:=R_) (c:=4) (t:=31) (p:=⟨w.heap.size,0,none⟩) (v:=.agg #[sT ((ms.getD (mIx ms k:Int).toNat mark0).1),i6 ((ms.getD (mIx ms k:Int).toNat mark0).2.1),i6 ((ms.getD (mIx ms k:Int).toNat mark0).2.2)]) (b:=5) (u:=i6 0) rfl rfl (lB k14 0) rfl (hR_ _ _ ?_)))
  rw[show gMk ms k=(ms.getD (mIx ms k) mark0)from if_pos hin_,show dCode ms k=0 from if_pos hin_]
  have B18:Below w.heap.size w w12:=(bg (bt b2 b7) g13 (Nat.le_refl _))
  exact⟨rfl,B18⟩
 have hin_:=of_decide_eq_false (Bool.eq_false_iff.2 c8)
 have hle_:=mix_le ms k
 rw[show (decide (mIn ms k):Bool)=false from by simpa using c8]
 refine xr0 1 [(15,bT)] [14] ?_
 refine nl (ct (sg (xe0 1 [(4,pw w.heap.size 0),(16,.agg #[s0,i6 0,i6 0])] ?_)))
 refine xst (.agg #[s0,i6 0,i6 0]) (Blk.below k3 b7) 0 #[s0,i6 0,i6 0] (fun w19 g20 k21 z22=>?_)
 refine xr0 1 [(5,i6 16)] [16] ?_
 refine nl (X_ret (RX.ret_cellT (P:=Tryz.prog) (fn:=Tryz.f29) (N:=24) (R:=R_) (c:=4) (t:=31) (p:=⟨w.heap.size,0,none⟩) (v:=.agg #[s0,i6 0,i6 0]) (b:=5) (u:=i6 16) rfl rfl (lB k21 0) rfl (hR_ _ _ ?_)))
 rw[show gMk ms k=mark0 from if_neg hin_,show dCode ms k=16 from if_neg hin_]
 have B25:Below w.heap.size w w19:=(bg (bt b2 b7) g20 (Nat.le_refl _))
 exact⟨rfl,B25⟩
theorem r23drop_any (gr:Nat)(A:Option Addr)(c:Nat)(ms:List MarkA)(k:ByteArray)(wB w:World)(hB:wB.heap.size≤w.heap.size)(hk:RX.Blk w gr 29 #[.slice A ms.length c])(hR:kMark.R 31 w wB.heap.size (OkFrom wB.heap.size) (.slice A ms.length c) ms)(hn:ms.length≤1000):Calls Tryz.prog 28 #[pw gr 0,sT k] w fun e w'=>e=.returned (i6 (dCode ms k:Int))∧Chg (fun k_=>k_=gr∨A.map (·.block)=some k_) w w'∧∃ A' c',RX.Blk w' gr 29 #[.slice A' (dMs ms k).length c']∧kMark.R 31 w' wB.heap.size (OkFrom wB.heap.size) (.slice A' (dMs ms k).length c') (dMs ms k)∧(∀ k_,A'.map (·.block)=some k_→A.map (·.block)=some k_∨w.heap.size≤k_):=by
 refine en Tryz.func28 rfl 36 [(0,pw gr 0),(1,sT k)] (fun R_ hR_=>?_)
 have hC:=Kd.R_C hR
 have hcap_:ms.length≤c:=(RX.Kd.R_len hR).2
 refine sg (xe0 1 [(0,pw gr 0),(1,sT k)] ?_)
 refine nl (sg (xr0 2 [(9,pw gr 0),(10,sT k)] [1] ?_))
 refine xc 42 ent42 [pw gr 0,sT k] (r23plc_any gr A c ms k _ hk hC hn) ?_
 rintro e w1 ⟨rfl,b2⟩; refine⟨_,rfl,?_⟩
 refine xr0 5 [(5,i6 (mIx ms k:Int)),(6,.bool (decide (mIn ms k)))] [9,10,11] ?_
 refine nl (sq (sg (xr0 1 [(14,.bool (decide (mIn ms k)))] [6] ?_)))
 by_cases c3:decide (mIn ms k)=true
 ·have hin_:=of_decide_eq_true c3
  have hil_:=hin_.1
  have hle_:=mix_le ms k
  rw[show (decide (mIn ms k):Bool)=true from by simpa using c3]
  refine xr0 1 [(15,bF)] [14] ?_
  refine nl (cf (sk (sg (xw 1 [] [(16,.slice (some ⟨w1.heap.size,0,none⟩) 0 0)] [15] (w1.alloc (.cells #[] 31)) [] trivial ?_))))
  obtain⟨w4,w8,b5,k6,z7⟩:=new_world w1 #[] 31
  rw[w8]
  have C9:=RX.Kd.C_take (m:=mIx ms k) hC (by first|omega|(simp; done)|(simp; omega))
  refine xe 6 [(20,.load (aL A ms c)),(22,.as (.slice A (mIx ms k) c))] [(0,pw gr 0),(5,i6 (mIx ms k:Int)),(16,.slice (some ⟨w1.heap.size,0,none⟩) 0 0),(22,.slice A (mIx ms k) c)] [_,RunsAs Tryz.prog [(20,aL A ms c),(21,i6 (mIx ms k:Int))] (Go.Op.slice 27 (Go.Operand.tmp 20) none (some (Go.Operand.tmp 21)) none) 27 (.slice A (mIx ms k) c) w4] ⟨lc 27 (Blk.below hk (bt b2 b5)) 0,runs_slice_h (h:=(mIx ms k:Int)) rfl rfl rfl rfl (by omega) (by have h:=(RX.Kd.R_len hR).2; (try simp only[List.length_append,List.length_cons,List.length_nil]at h); omega),trivial⟩ ?_
  have r10:=Kd.R_litB kMark (W:=w1) (e:=31) (cs:=#[]) [] k6 (repsMark []) (Nat.le_of_ble_eq_true (by kernel_rfl))
  refine XL_appendAll (c':=c) kMark rfl rfl rfl w1.heap.size 31 (.agg #[s0,i6 0,i6 0]) 32 Tryz.underlying27 info31 rfl (by decide) (by omega) ([]) (List.take (mIx ms k) ms) (by kernel_rfl) r10 (Kd.C_below C9 (bt b2 b5)) kMark_KM (b5).size (by first|omega|(simp; omega)) ?_
  intro A11 c12 w13 r14 c15 g16 l17 a18
  have B19:Below w.heap.size w w13:=(bgo (bt b2 b5) g16 l17 (b2).size)
  have hne20:=RX.Kd.R_blk_ne r10 (Blk.below hk (bt b2 b5)) rfl
  have k21:=Blk.ne (Blk.below hk (bt b2 b5)) g16 hne20
  have e22:([]++(List.take (mIx ms k) ms))=(ms.take (mIx ms k)):=List.nil_append _
  rw[e22]at r14 ⊢
  refine xr0 1 [(7,aL A11 (ms.take (mIx ms k)) c12)] [16,22,23] ?_
  refine nl (sq (X_region ?_))
  obtain⟨A23,A24⟩:∃ A_,(if c=(((mIx ms k:Int)+1).toNat)then A else A.map (·.add ((((mIx ms k:Int)+1).toNat)*3)))=A_:=⟨_,rfl⟩
  have C25:kMark.C w A23 (ms.length-(((mIx ms k:Int)+1).toNat)) (ms.drop (((mIx ms k:Int)+1).toNat)):=by have h:=RX.Kd.C_drop hC (k:=(((mIx ms k:Int)+1).toNat)) (cap:=c) (by omega) (by omega); first|(rw[←A24]; exact h)
  refine xe 9 [(29,.load (aL A ms c)),(31,.eq (i6 ((mIx ms k:Int)+1))),(32,.as (.slice A23 (ms.length-(((mIx ms k:Int)+1).toNat)) (c-(((mIx ms k:Int)+1).toNat))))] [(24,pw gr 0),(25,aL A11 (ms.take (mIx ms k)) c12),(32,.slice A23 (ms.length-(((mIx ms k:Int)+1).toNat)) (c-(((mIx ms k:Int)+1).toNat)))] [_,_,RunsAs Tryz.prog [(29,aL A ms c),(31,i6 ((mIx ms k:Int)+1))] (Go.Op.slice 27 (Go.Operand.tmp 29) (some (Go.Operand.tmp 31)) none none) 27 (.slice A23 (ms.length-(((mIx ms k:Int)+1).toNat)) (c-(((mIx ms k:Int)+1).toNat))) w13] ⟨lc 27 k21 0,w6 ((mIx ms k:Int)+1),(A24▸runs_slice_l (h:=(mIx ms k:Int)+1) rfl rfl rfl rfl (by omega) (by omega) (by omega)),trivial⟩ ?_
  refine XL_appendAll (c':=(c-(((mIx ms k:Int)+1).toNat))) kMark rfl rfl rfl w1.heap.size 31 (.agg #[s0,i6 0,i6 0]) 32 Tryz.underlying27 info31 rfl (by decide) (by omega) (ms.take (mIx ms k)) (ms.drop (((mIx ms k:Int)+1).toNat)) (by kernel_rfl) r14 (Kd.C_below C25 B19) kMark_KM ((bgo b5 g16 l17 (Nat.le_refl _))).size (by first|omega|(simp; omega)) ?_
  intro A26 c27 w28 r29 c30 g31 l32 a33
  have hne34:=RX.Kd.R_blk_ne r14 k21 rfl
  have k35:=Blk.ne k21 g31 hne34
  have e36:((ms.take (mIx ms k))++(ms.drop (((mIx ms k:Int)+1).toNat)))=(ms.take (mIx ms k)++ms.drop (mIx ms k+1)):=rfl
  rw[e36]at r29 ⊢
  refine xe0 2 [(33,aL A26 (ms.take (mIx ms k)++ms.drop (mIx ms k+1)) c27),(35,pw gr 0)] ?_
  refine xst (aL A26 (ms.take (mIx ms k)++ms.drop (mIx ms k+1)) c27) k35 0 #[aL A26 (ms.take (mIx ms k)++ms.drop (mIx ms k+1)) c27] (fun w37 g38 k39 z40=>?_)
  have r41:=Kd.R_off r29 k35 (by decide) g38
  refine nl (sg (xe0 1 [(4,i6 0)] ?_))
  refine nl (X_ret (rj [i6 0] hR_ ?_))
  rw[show dCode ms k=0 from if_pos hin_,show dMs ms k=ms.take (mIx ms k)++ms.drop (mIx ms k+1)from(if_pos hin_).trans (mdel_in hin_)]
  have hrz_:=r41
  exact⟨rfl,(Chg.trans (Chg.trans (Chg.trans (Chg.trans (Chg.trans (Chg.refl (fun k_=>k_=gr∨A.map (·.block)=some k_) w) (Chg.below (S:=(fun k_=>k_=gr∨A.map (·.block)=some k_)) b2) (fun _ _ h_=>h_)) (Chg.below (S:=(fun k_=>k_=gr∨A.map (·.block)=some k_)) b5) (fun _ _ h_=>h_)) (Chg.grown (S:=fun k_=>((some ⟨w1.heap.size,0,none⟩):Option Addr).map (·.block)=some k_) g16 (fun k_ e_=>e_)) (fun g_ h1_ h2_=>absurd h1_ (Nat.not_lt.2 (Nat.le_trans (b2).size (l17 g_ h2_))))) (Chg.grown (S:=fun k_=>A11.map (·.block)=some k_) g31 (fun k_ e_=>e_)) (fun g_ h1_ h2_=>absurd h1_ (Nat.not_lt.2 (Nat.le_trans (b2).size (l32 g_ h2_))))) (Chg.grown (S:=(fun k_=>k_=gr∨A.map (·.block)=some k_)) g38 (fun k_ e_=>.inl (Option.some.inj e_).symm)) (fun _ _ h_=>h_)),_,_,k39,Kd.R_low hrz_ (Nat.le_trans hB b2.size),fun k_ h_=>.inr (Nat.le_trans (b2).size (RX.Kd.R_ge hrz_ k_ h_))⟩
 have hin_:=of_decide_eq_false (Bool.eq_false_iff.2 c3)
 have hle_:=mix_le ms k
 rw[show (decide (mIn ms k):Bool)=false from by simpa using c3]
 refine xr0 1 [(15,bT)] [14] ?_
 refine nl (ct (sg (xe0 1 [(4,i6 16)] ?_)))
 refine nl (X_ret (rj [i6 16] hR_ ?_))
 rw[show dCode ms k=16 from if_neg hin_,show dMs ms k=ms from if_neg hin_]
 exact⟨rfl,(Chg.trans (Chg.refl (fun k_=>k_=gr∨A.map (·.block)=some k_) w) (Chg.below (S:=(fun k_=>k_=gr∨A.map (·.block)=some k_)) b2) (fun _ _ h_=>h_)),A,c,(Blk.below hk b2),(Kd.R_below hR b2),fun _ h_=>.inl h_⟩
theorem sCode_6 {ms:List MarkA}{m:MarkA}{cells:Int}(h:¬nmOk m.1):sCode ms m cells=6:=if_pos h
theorem sCode_12 {ms:List MarkA}{m:MarkA}{cells:Int}(h:nmOk m.1)(h2:m.2.1<0∨cells<m.2.1∨m.2.2<0∨cells<m.2.2):sCode ms m cells=12:=by unfold sCode; rw[if_neg (fun h'=>h' h),if_pos h2]
theorem sCode_16 {ms:List MarkA}{m:MarkA}{cells:Int}(h:nmOk m.1)(h2:¬(m.2.1<0∨cells<m.2.1∨m.2.2<0∨cells<m.2.2))(h3:¬mIn ms m.1∧64≤ms.length):sCode ms m cells=16:=by unfold sCode; rw[if_neg (fun h'=>h' h),if_neg h2,if_pos h3]
theorem sCode_0 {ms:List MarkA}{m:MarkA}{cells:Int}(h:nmOk m.1)(h2:¬(m.2.1<0∨cells<m.2.1∨m.2.2<0∨cells<m.2.2))(h3:¬(¬mIn ms m.1∧64≤ms.length)):sCode ms m cells=0:=by unfold sCode; rw[if_neg (fun h'=>h' h),if_neg h2,if_neg h3]
theorem sMs_no {ms:List MarkA}{m:MarkA}{cells:Int}(h:sCode ms m cells≠0):sMs ms m cells=ms:=if_neg h
theorem sMs_put {ms:List MarkA}{m:MarkA}{cells:Int}(h:sCode ms m cells=0):sMs ms m cells=mPut ms m:=if_pos h
set_option maxHeartbeats 1000000 in
theorem r23set_any (gr:Nat)(A:Option Addr)(c:Nat)(ms:List MarkA)(mk:MarkA)(cells:Int)(wB w:World)(hB:wB.heap.size≤w.heap.size)(hk:RX.Blk w gr 29 #[.slice A ms.length c])(hR:kMark.R 31 w wB.heap.size (OkFrom wB.heap.size) (.slice A ms.length c) ms)(hn:ms.length≤1000):Calls Tryz.prog 27 #[pw gr 0,.agg #[sT mk.1,i6 mk.2.1,i6 mk.2.2],i6 cells] w fun e w'=>e=.returned (i6 (sCode ms mk cells:Int))∧Chg (fun k_=>k_=gr∨A.map (·.block)=some k_) w w'∧∃ A' c',RX.Blk w' gr 29 #[.slice A' (sMs ms mk cells).length c']∧kMark.R 31 w' wB.heap.size (OkFrom wB.heap.size) (.slice A' (sMs ms mk cells).length c') (sMs ms mk cells)∧(∀ k_,A'.map (·.block)=some k_→A.map (·.block)=some k_∨w.heap.size≤k_):=by
 refine en Tryz.func27 rfl 90 [(0,pw gr 0),(1,.agg #[sT mk.1,i6 mk.2.1,i6 mk.2.2]),(2,i6 cells)] (fun R_ hR_=>?_)
 have hC:=Kd.R_C hR
 have hcap_:ms.length≤c:=(RX.Kd.R_len hR).2
 refine sg (xwe 1 [] [(0,pw gr 0),(2,i6 cells),(4,pw w.heap.size 0)] (w.alloc (.cells #[sT mk.1,i6 mk.2.1,i6 mk.2.2] 31)) [] trivial ?_)
 obtain⟨w1,w5,b2,k3,z4⟩:=new_world w #[sT mk.1,i6 mk.2.1,i6 mk.2.2] 31
 rw[w5]
 refine xr0 1 [] [] ?_
 refine nl (sq (sg (xr1 3 [(11,.load (sT mk.1))] [(12,i6 (mk.1.size:Int))] [] (lc 9 k3 0) ?_)))
 by_cases c6:(mk.1.size:Int)<1
 ·refine xr1 13 [(13,.eq bT)] [(25,bT)] [12] (dT c6) ?_
  refine nl (ct (sg (xe0 1 [(6,i6 6)] ?_)))
  refine nl (X_ret (rj [i6 6] hR_ ?_))
  have hc_:sCode ms mk cells=6:=sCode_6 (fun h_=>by obtain⟨h1_,h2_,h3_⟩:=h_; omega)
  rw[hc_,sMs_no (by rw[hc_]; decide)]
  exact⟨rfl,(Chg.trans (Chg.refl (fun k_=>k_=gr∨A.map (·.block)=some k_) w) (Chg.below (S:=(fun k_=>k_=gr∨A.map (·.block)=some k_)) b2) (fun _ _ h_=>h_)),A,c,(Blk.below hk b2),(Kd.R_below hR b2),fun _ h_=>.inl h_⟩
 refine xr 5 [(13,.eq bF),(16,.load (sT mk.1))] [(14,bF),(17,i6 (mk.1.size:Int))] [12] [_,_] ⟨dF c6,lc 9 k3 0,trivial⟩ ?_
 by_cases c7:(mk.1.size:Int)>64
 ·refine xr1 8 [(18,.eq bT)] [(25,bT)] [14,17] (dT c7) ?_
  refine nl (ct (sg (xe0 1 [(6,i6 6)] ?_)))
  refine nl (X_ret (rj [i6 6] hR_ ?_))
  have hc_:sCode ms mk cells=6:=sCode_6 (fun h_=>by obtain⟨h1_,h2_,h3_⟩:=h_; omega)
  rw[hc_,sMs_no (by rw[hc_]; decide)]
  exact⟨rfl,(Chg.trans (Chg.refl (fun k_=>k_=gr∨A.map (·.block)=some k_) w) (Chg.below (S:=(fun k_=>k_=gr∨A.map (·.block)=some k_)) b2) (fun _ _ h_=>h_)),A,c,(Blk.below hk b2),(Kd.R_below hR b2),fun _ h_=>.inl h_⟩
 refine xr 5 [(18,.eq bF),(22,.load (sT mk.1))] [(20,bF),(22,sT mk.1)] [14,17] [_,_] ⟨dF c7,lc 9 k3 0,trivial⟩ ?_
 refine xc 41 ent41 [sT mk.1] (utf8_any mk.1 _ (by omega)) ?_
 rintro e w_8 ⟨rfl,b9⟩; refine⟨_,rfl,?_⟩
 by_cases c10:(uchk mk.1).2=true
 ·rw[show ((uchk mk.1).2:Bool)=true from by simpa using c10]
  refine xr0 2 [(25,bF)] [20,22,23] ?_
  refine nl (cf (sk (sq (sg (xe1 2 [(27,.load (i6 mk.2.1))] [(0,pw gr 0),(2,i6 cells),(4,pw w.heap.size 0),(27,i6 mk.2.1)] (lc 3 (Blk.below k3 b9) 1) ?_)))))
  by_cases c11:mk.2.1<0
  ·refine xr1 18 [(28,.eq bT)] [(45,bT)] [2,27] (dT c11) ?_
   refine nl (ct (sg (xe0 1 [(6,i6 12)] ?_)))
   refine nl (X_ret (rj [i6 12] hR_ ?_))
   have hnm_:nmOk mk.1:=⟨by omega,by omega,c10⟩
   have hc_:sCode ms mk cells=12:=sCode_12 hnm_ (by omega)
   rw[hc_,sMs_no (by rw[hc_]; decide)]
   exact⟨rfl,(Chg.trans (Chg.trans (Chg.refl (fun k_=>k_=gr∨A.map (·.block)=some k_) w) (Chg.below (S:=(fun k_=>k_=gr∨A.map (·.block)=some k_)) b2) (fun _ _ h_=>h_)) (Chg.below (S:=(fun k_=>k_=gr∨A.map (·.block)=some k_)) b9) (fun _ _ h_=>h_)),A,c,(Blk.below hk (bt b2 b9)),(Kd.R_below hR (bt b2 b9)),fun _ h_=>.inl h_⟩
  refine xr 5 [(28,.eq bF),(31,.load (i6 mk.2.1))] [(29,bF),(31,i6 mk.2.1),(32,i6 cells)] [27] [_,_] ⟨dF c11,lc 3 (Blk.below k3 b9) 1,trivial⟩ ?_
  by_cases c12:mk.2.1>cells
  ·refine xr1 13 [(33,.eq bT)] [(45,bT)] [2,29,31,32] (dT c12) ?_
   refine nl (ct (sg (xe0 1 [(6,i6 12)] ?_)))
   refine nl (X_ret (rj [i6 12] hR_ ?_))
   have hnm_:nmOk mk.1:=⟨by omega,by omega,c10⟩
   have hc_:sCode ms mk cells=12:=sCode_12 hnm_ (by omega)
   rw[hc_,sMs_no (by rw[hc_]; decide)]
   exact⟨rfl,(Chg.trans (Chg.trans (Chg.refl (fun k_=>k_=gr∨A.map (·.block)=some k_) w) (Chg.below (S:=(fun k_=>k_=gr∨A.map (·.block)=some k_)) b2) (fun _ _ h_=>h_)) (Chg.below (S:=(fun k_=>k_=gr∨A.map (·.block)=some k_)) b9) (fun _ _ h_=>h_)),A,c,(Blk.below hk (bt b2 b9)),(Kd.R_below hR (bt b2 b9)),fun _ h_=>.inl h_⟩
  refine xr 5 [(33,.eq bF),(37,.load (i6 mk.2.2))] [(35,bF),(37,i6 mk.2.2)] [29,31,32] [_,_] ⟨dF c12,lc 3 (Blk.below k3 b9) 2,trivial⟩ ?_
  by_cases c13:mk.2.2<0
  ·refine xr1 8 [(38,.eq bT)] [(45,bT)] [2,35,37] (dT c13) ?_
   refine nl (ct (sg (xe0 1 [(6,i6 12)] ?_)))
   refine nl (X_ret (rj [i6 12] hR_ ?_))
   have hnm_:nmOk mk.1:=⟨by omega,by omega,c10⟩
   have hc_:sCode ms mk cells=12:=sCode_12 hnm_ (by omega)
   rw[hc_,sMs_no (by rw[hc_]; decide)]
   exact⟨rfl,(Chg.trans (Chg.trans (Chg.refl (fun k_=>k_=gr∨A.map (·.block)=some k_) w) (Chg.below (S:=(fun k_=>k_=gr∨A.map (·.block)=some k_)) b2) (fun _ _ h_=>h_)) (Chg.below (S:=(fun k_=>k_=gr∨A.map (·.block)=some k_)) b9) (fun _ _ h_=>h_)),A,c,(Blk.below hk (bt b2 b9)),(Kd.R_below hR (bt b2 b9)),fun _ h_=>.inl h_⟩
  refine xr 6 [(38,.eq bF),(42,.load (i6 mk.2.2))] [(40,bF),(42,i6 mk.2.2),(43,i6 cells)] [2,35,37] [_,_] ⟨dF c13,lc 3 (Blk.below k3 b9) 2,trivial⟩ ?_
  by_cases c14:mk.2.2>cells
  ·refine xr1 2 [(44,.eq bT)] [(45,bT)] [40,42,43] (dT c14) ?_
   refine nl (ct (sg (xe0 1 [(6,i6 12)] ?_)))
   refine nl (X_ret (rj [i6 12] hR_ ?_))
   have hnm_:nmOk mk.1:=⟨by omega,by omega,c10⟩
   have hc_:sCode ms mk cells=12:=sCode_12 hnm_ (by omega)
   rw[hc_,sMs_no (by rw[hc_]; decide)]
   exact⟨rfl,(Chg.trans (Chg.trans (Chg.refl (fun k_=>k_=gr∨A.map (·.block)=some k_) w) (Chg.below (S:=(fun k_=>k_=gr∨A.map (·.block)=some k_)) b2) (fun _ _ h_=>h_)) (Chg.below (S:=(fun k_=>k_=gr∨A.map (·.block)=some k_)) b9) (fun _ _ h_=>h_)),A,c,(Blk.below hk (bt b2 b9)),(Kd.R_below hR (bt b2 b9)),fun _ h_=>.inl h_⟩
  refine xr1 2 [(44,.eq bF)] [(45,bF)] [40,42,43] (dF c14) ?_
  refine nl (cf (sk (sg (xr1 3 [(49,.load (sT mk.1))] [(47,pw gr 0),(49,sT mk.1)] [45] (lc 9 (Blk.below k3 b9) 0) ?_))))
  refine xc 42 ent42 [pw gr 0,sT mk.1] (r23plc_any gr A c ms mk.1 _ (Blk.below hk (bt b2 b9)) (Kd.C_below hC (bt b2 b9)) hn) ?_
  rintro e w15 ⟨rfl,b16⟩; refine⟨_,rfl,?_⟩
  refine xe0 5 [(0,pw gr 0),(4,pw w.heap.size 0),(7,i6 (mIx ms mk.1:Int)),(8,.bool (decide (mIn ms mk.1)))] ?_
  refine nl (sq (sg (xr0 1 [(53,.bool (decide (mIn ms mk.1)))] [8] ?_)))
  refine nl ?_
  by_cases c17:decide (mIn ms mk.1)=true
  ·have hin_:=of_decide_eq_true c17
   have hil_:=hin_.1
   have hle_:=mix_le ms mk.1
   rw[show (decide (mIn ms mk.1):Bool)=true from by simpa using c17]
   refine ct (sq (X_any [7] 8 (tf 0 8) (by kernel_rfl) (by kernel_rfl) (by kernel_rfl) (fun wd18 b19 h20=>?_)))
   refine XA_run (fuel':=2) [0,1,2,3,4,5] [(57,.load (aL A ms c)),(59,.load (.agg #[sT mk.1,i6 mk.2.1,i6 mk.2.2]))] [pw gr 0,pw gr 0,pw gr 0,.slice A ms.length c,i6 (mIx ms mk.1:Int),.agg #[sT mk.1,i6 mk.2.1,i6 mk.2.2]] (tf 6 2) [(57,aL A ms c),(58,i6 (mIx ms mk.1:Int)),(59,.agg #[sT mk.1,i6 mk.2.1,i6 mk.2.2])] [la 27 (⟨gr,0,none⟩) (aL A ms c) wd18,la 31 (⟨w.heap.size,0,none⟩) (.agg #[sT mk.1,i6 mk.2.1,i6 mk.2.2]) wd18] ⟨loads1 rfl (Blk.cell (Blk.below hk (bt (bt (bt b2 b9) b16) b19)) 0 _ rfl),loadsB rfl rfl (Blk.below k3 (bt (bt b9 b16) b19)) 0 ⟨by kernel_rfl,by kernel_rfl⟩,trivial⟩ ?_
   obtain⟨ad21,a22,c23⟩:=Kd.atMark (Kd.C_below hC (bt (bt (bt b2 b9) b16) b19)) (i:=(mIx ms mk.1:Int)) (by omega) (by omega)
   replace c23:CellsAt wd18 (ad21.add ((mIx ms mk.1:Int).toNat*3)) [sT ((ms.getD (mIx ms mk.1:Int).toNat mark0).1),i6 ((ms.getD (mIx ms mk.1:Int).toNat mark0).2.1),i6 ((ms.getD (mIx ms mk.1:Int).toNat mark0).2.2)]:=c23
   refine XA_runC (fuel':=1) [6] [(60,.idx ad21)] [.pointer (some (ad21.add ((mIx ms mk.1:Int).toNat*3)))] (tf 7 1) [(60,.pointer (some (ad21.add ((mIx ms mk.1:Int).toNat*3))))] [57,58] [A=some ad21,(0:Int)≤(mIx ms mk.1:Int),(mIx ms mk.1:Int)<(ms.length:Int)] ⟨a22,(by omega),(by omega),trivial⟩ ?_
   refine XA_act (fuel':=0) 7 (tf 8 0) _ rfl (by kernel_rfl) rfl (by kernel_rfl) rfl ?_
   refine XL_rowset kMark rfl rfl rfl wB.heap.size 31 (ad:=ad21) (i:=(mIx ms mk.1:Int)) (v:=.agg #[sT mk.1,i6 mk.2.1,i6 mk.2.2]) ms mk (by kernel_rfl) a22 (Kd.R_below hR (bt (bt (bt b2 b9) b16) b19)) (by omega) (by omega) [sT mk.1,i6 mk.2.1,i6 mk.2.2] ⟨by kernel_rfl,by kernel_rfl⟩ (by kernel_rfl) (kMark_M _ _ _ _) ?_
   intro w24 r25 g26 l27
   have hne28:=RX.Kd.R_blk_ne (Kd.R_below hR (bt (bt (bt b2 b9) b16) b19)) (Blk.below hk (bt (bt (bt b2 b9) b16) b19)) rfl
   have k29:=Blk.ne (Blk.below hk (bt (bt (bt b2 b9) b16) b19)) g26 hne28
   have e30:(ms.set (mIx ms mk.1:Int).toNat mk)=(mPut ms mk):=(mput_in hin_).symm
   rw[e30]at r25
   refine nl (XA_done (by kernel_rfl) ?_)
   refine sg (xe0 1 [(6,i6 0)] ?_)
   refine nl (X_ret (rj [i6 0] hR_ ?_))
   have hnm_:nmOk mk.1:=⟨by omega,by omega,c10⟩
   have hc_:sCode ms mk cells=0:=sCode_0 hnm_ (by omega) (fun h_=>h_.1 hin_)
   rw[hc_,sMs_put hc_]
   have hlen_:(mPut ms mk).length=ms.length:=by rw[mput_len,if_pos hin_]
   rw[hlen_]
   exact⟨rfl,(Chg.trans (Chg.trans (Chg.trans (Chg.trans (Chg.trans (Chg.refl (fun k_=>k_=gr∨A.map (·.block)=some k_) w) (Chg.below (S:=(fun k_=>k_=gr∨A.map (·.block)=some k_)) b2) (fun _ _ h_=>h_)) (Chg.below (S:=(fun k_=>k_=gr∨A.map (·.block)=some k_)) b9) (fun _ _ h_=>h_)) (Chg.below (S:=(fun k_=>k_=gr∨A.map (·.block)=some k_)) b16) (fun _ _ h_=>h_)) (Chg.below (S:=(fun k_=>k_=gr∨A.map (·.block)=some k_)) b19) (fun _ _ h_=>h_)) (Chg.grown (S:=(fun k_=>k_=gr∨A.map (·.block)=some k_)) g26 (fun k_ e_=>.inr e_)) (fun _ _ h_=>h_)),A,c,k29,r25,fun _ h_=>.inl h_⟩
  have hin_:=of_decide_eq_false (Bool.eq_false_iff.2 c17)
  have hle_:=mix_le ms mk.1
  rw[show (decide (mIn ms mk.1):Bool)=false from by simpa using c17]
  refine cf (sk (sq (sg (xr1 5 [(64,.load (aL A ms c))] [(65,i6 (ms.length:Int))] [53] (lc 27 (Blk.below hk (bt (bt b2 b9) b16)) 0) ?_))))
  by_cases c31:(ms.length:Int)≥64
  ·refine xr1 1 [(66,.eq bT)] [(66,bT)] [65] (dT c31) ?_
   refine nl (ct (sg (xe0 1 [(6,i6 16)] ?_)))
   refine nl (X_ret (rj [i6 16] hR_ ?_))
   have hnm_:nmOk mk.1:=⟨by omega,by omega,c10⟩
   have hc_:sCode ms mk cells=16:=sCode_16 hnm_ (by omega) ⟨hin_,by omega⟩
   rw[hc_,sMs_no (by rw[hc_]; decide)]
   exact⟨rfl,(Chg.trans (Chg.trans (Chg.trans (Chg.refl (fun k_=>k_=gr∨A.map (·.block)=some k_) w) (Chg.below (S:=(fun k_=>k_=gr∨A.map (·.block)=some k_)) b2) (fun _ _ h_=>h_)) (Chg.below (S:=(fun k_=>k_=gr∨A.map (·.block)=some k_)) b9) (fun _ _ h_=>h_)) (Chg.below (S:=(fun k_=>k_=gr∨A.map (·.block)=some k_)) b16) (fun _ _ h_=>h_)),A,c,(Blk.below hk (bt (bt b2 b9) b16)),(Kd.R_below hR (bt (bt b2 b9) b16)),fun _ h_=>.inl h_⟩
  refine xr1 1 [(66,.eq bF)] [(66,bF)] [65] (dF c31) ?_
  refine nl (cf (sk (sg (xw 1 [] [(67,.slice (some ⟨w15.heap.size,0,none⟩) 0 0)] [66] (w15.alloc (.cells #[] 31)) [] trivial ?_))))
  obtain⟨w32,w36,b33,k34,z35⟩:=new_world w15 #[] 31
  rw[w36]
  have C37:=RX.Kd.C_take (m:=mIx ms mk.1) hC (by first|omega|(simp; done)|(simp; omega))
  refine xr 6 [(71,.load (aL A ms c)),(73,.as (.slice A (mIx ms mk.1) c))] [(73,.slice A (mIx ms mk.1) c)] [] [_,RunsAs Tryz.prog [(71,aL A ms c),(72,i6 (mIx ms mk.1:Int))] (Go.Op.slice 27 (Go.Operand.tmp 71) none (some (Go.Operand.tmp 72)) none) 27 (.slice A (mIx ms mk.1) c) w32] ⟨lc 27 (Blk.below hk (bt (bt (bt b2 b9) b16) b33)) 0,runs_slice_h (h:=(mIx ms mk.1:Int)) rfl rfl rfl rfl (by omega) (by have h:=(RX.Kd.R_len hR).2; (try simp only[List.length_append,List.length_cons,List.length_nil]at h); omega),trivial⟩ ?_
  have r38:=Kd.R_litB kMark (W:=w15) (e:=31) (cs:=#[]) [] k34 (repsMark []) (Nat.le_of_ble_eq_true (by kernel_rfl))
  refine XL_appendAll (c':=c) kMark rfl rfl rfl w15.heap.size 31 (.agg #[s0,i6 0,i6 0]) 32 Tryz.underlying27 info31 rfl (by decide) (by omega) ([]) (List.take (mIx ms mk.1) ms) (by kernel_rfl) r38 (Kd.C_below C37 (bt (bt (bt b2 b9) b16) b33)) kMark_KM (b33).size (by first|omega|(simp; omega)) ?_
  intro A39 c40 w41 r42 c43 g44 l45 a46
  have B47:Below w.heap.size w w41:=(bgo (bt (bt (bt b2 b9) b16) b33) g44 l45 ((bt (bt b2 b9) b16)).size)
  have hne48:=RX.Kd.R_blk_ne r38 (Blk.below hk (bt (bt (bt b2 b9) b16) b33)) rfl
  have k49:=Blk.ne (Blk.below hk (bt (bt (bt b2 b9) b16) b33)) g44 hne48
  have e50:([]++(List.take (mIx ms mk.1) ms))=(ms.take (mIx ms mk.1)):=List.nil_append _
  rw[e50]at r42 ⊢
  refine xe0 1 [(0,pw gr 0),(4,pw w.heap.size 0),(7,i6 (mIx ms mk.1:Int)),(9,aL A39 (ms.take (mIx ms mk.1)) c40)] ?_
  refine nl (sq (X_region ?_))
  have B51:Below w1.heap.size w1 w41:=(bgo (bt (bt b9 b16) b33) g44 l45 ((bt b9 b16)).size)
  refine xw 3 [(76,.load (.agg #[sT mk.1,i6 mk.2.1,i6 mk.2.2]))] [(75,aL A39 (ms.take (mIx ms mk.1)) c40),(77,.slice (some ⟨w41.heap.size,0,none⟩) 1 1)] [4,9] (w41.alloc (.cells #[sT mk.1,i6 mk.2.1,i6 mk.2.2] 31)) [la 31 (⟨w.heap.size,0,none⟩) (.agg #[sT mk.1,i6 mk.2.1,i6 mk.2.2]) w41] ⟨loadsB rfl rfl (Blk.below k3 B51) 0 ⟨by kernel_rfl,by kernel_rfl⟩,trivial⟩ ?_
  obtain⟨w52,w56,b53,k54,z55⟩:=new_world w41 #[sT mk.1,i6 mk.2.1,i6 mk.2.2] 31
  rw[w56]
  rw[←w56]
  refine XL_append kMark rfl rfl rfl w15.heap.size 31 (.agg #[s0,i6 0,i6 0]) 32 Tryz.underlying27 info31 rfl (by decide) (by omega) (ms.take (mIx ms mk.1)) mk [sT mk.1,i6 mk.2.1,i6 mk.2.2] (fun _=>False) (by kernel_rfl) (kMark_M _ _ _ _) (fun _ h=>h.elim) r42 ((bgo b33 g44 l45 (Nat.le_refl _))).size (by first|omega|(simp; omega)) ?_
  intro A57 c58 w59 r60 c61 g62 l63 a64
  have B65:Below w.heap.size w w59:=(bgo B47 g62 l63 ((bt (bt b2 b9) b16)).size)
  have hne66:=RX.Kd.R_blk_ne r42 k49 rfl
  have k67:=Blk.ne k49 g62 hne66
  have e68:((ms.take (mIx ms mk.1))++[mk])=(ms.take (mIx ms mk.1)++[mk]):=rfl
  rw[e68]at r60 ⊢
  refine xr0 1 [(9,aL A57 (ms.take (mIx ms mk.1)++[mk]) c58)] [75,77,78] ?_
  refine nl (sq (X_region ?_))
  obtain⟨A69,A70⟩:∃ A_,(if c=(mIx ms mk.1)then A else A.map (·.add ((mIx ms mk.1)*3)))=A_:=⟨_,rfl⟩
  have C71:kMark.C w A69 (ms.length-(mIx ms mk.1)) (ms.drop (mIx ms mk.1)):=by have h:=RX.Kd.C_drop hC (k:=(mIx ms mk.1)) (cap:=c) (by omega) (by omega); first|(rw[←A70]; exact h)
  refine xe 8 [(84,.load (aL A ms c)),(86,.as (.slice A69 (ms.length-(mIx ms mk.1)) (c-(mIx ms mk.1))))] [(79,pw gr 0),(80,aL A57 (ms.take (mIx ms mk.1)++[mk]) c58),(86,.slice A69 (ms.length-(mIx ms mk.1)) (c-(mIx ms mk.1)))] [_,RunsAs Tryz.prog [(84,aL A ms c),(85,i6 (mIx ms mk.1:Int))] (Go.Op.slice 27 (Go.Operand.tmp 84) (some (Go.Operand.tmp 85)) none none) 27 (.slice A69 (ms.length-(mIx ms mk.1)) (c-(mIx ms mk.1))) w59] ⟨lc 27 k67 0,(A70▸runs_slice_l (h:=(mIx ms mk.1:Int)) rfl rfl rfl rfl (by omega) (by omega) (by omega)),trivial⟩ ?_
  have B80:Below w15.heap.size w15 w59:=(bgo (bgo b33 g44 l45 (Nat.le_refl _)) g62 l63 (Nat.le_refl _))
  refine XL_appendAll (c':=(c-(mIx ms mk.1))) kMark rfl rfl rfl w15.heap.size 31 (.agg #[s0,i6 0,i6 0]) 32 Tryz.underlying27 info31 rfl (by decide) (by omega) (ms.take (mIx ms mk.1)++[mk]) (ms.drop (mIx ms mk.1)) (by kernel_rfl) r60 (Kd.C_below C71 B65) kMark_KM (B80).size (by first|omega|(simp; omega)) ?_
  intro A72 c73 w74 r75 c76 g77 l78 a79
  have hne82:=RX.Kd.R_blk_ne r60 k67 rfl
  have k83:=Blk.ne k67 g77 hne82
  have e84:((ms.take (mIx ms mk.1)++[mk])++(ms.drop (mIx ms mk.1)))=(mPut ms mk):=by rw[mput_out hin_]; simp
  rw[e84]at r75 ⊢
  refine xe0 2 [(87,aL A72 (mPut ms mk) c73),(89,pw gr 0)] ?_
  refine xst (aL A72 (mPut ms mk) c73) k83 0 #[aL A72 (mPut ms mk) c73] (fun w85 g86 k87 z88=>?_)
  have r92:=Kd.R_off r75 k83 (by decide) g86
  refine nl (sg (xe0 1 [(6,i6 0)] ?_))
  refine nl (X_ret (rj [i6 0] hR_ ?_))
  have hnm_:nmOk mk.1:=⟨by omega,by omega,c10⟩
  have hc_:sCode ms mk cells=0:=sCode_0 hnm_ (by omega) (fun h_=>by have:=h_.2; omega)
  rw[hc_,sMs_put hc_]
  have hrz_:=r92
  exact⟨rfl,(Chg.trans (Chg.trans (Chg.trans (Chg.trans (Chg.trans (Chg.trans (Chg.trans (Chg.trans (Chg.refl (fun k_=>k_=gr∨A.map (·.block)=some k_) w) (Chg.below (S:=(fun k_=>k_=gr∨A.map (·.block)=some k_)) b2) (fun _ _ h_=>h_)) (Chg.below (S:=(fun k_=>k_=gr∨A.map (·.block)=some k_)) b9) (fun _ _ h_=>h_)) (Chg.below (S:=(fun k_=>k_=gr∨A.map (·.block)=some k_)) b16) (fun _ _ h_=>h_)) (Chg.below (S:=(fun k_=>k_=gr∨A.map (·.block)=some k_)) b33) (fun _ _ h_=>h_)) (Chg.grown (S:=fun k_=>((some ⟨w15.heap.size,0,none⟩):Option Addr).map (·.block)=some k_) g44 (fun k_ e_=>e_)) (fun g_ h1_ h2_=>absurd h1_ (Nat.not_lt.2 (Nat.le_trans ((bt (bt b2 b9) b16)).size (l45 g_ h2_))))) (Chg.grown (S:=fun k_=>A39.map (·.block)=some k_) g62 (fun k_ e_=>e_)) (fun g_ h1_ h2_=>absurd h1_ (Nat.not_lt.2 (Nat.le_trans ((bt (bt b2 b9) b16)).size (l63 g_ h2_))))) (Chg.grown (S:=fun k_=>A57.map (·.block)=some k_) g77 (fun k_ e_=>e_)) (fun g_ h1_ h2_=>absurd h1_ (Nat.not_lt.2 (Nat.le_trans ((bt (bt b2 b9) b16)).size (l78 g_ h2_))))) (Chg.grown (S:=(fun k_=>k_=gr∨A.map (·.block)=some k_)) g86 (fun k_ e_=>.inl (Option.some.inj e_).symm)) (fun _ _ h_=>h_)),_,_,k87,Kd.R_low hrz_ (Nat.le_trans hB (Nat.le_trans (Nat.le_trans b2.size b9.size) b16.size)),fun k_ h_=>.inr (Nat.le_trans ((bt (bt b2 b9) b16)).size (RX.Kd.R_ge hrz_ k_ h_))⟩
 rw[show ((uchk mk.1).2:Bool)=false from by simpa using c10]
 refine xr0 2 [(25,bT)] [20,22,23] ?_
 refine nl (ct (sg (xe0 1 [(6,i6 6)] ?_)))
 refine nl (X_ret (rj [i6 6] hR_ ?_))
 have hc_:sCode ms mk cells=6:=sCode_6 (fun h_=>by obtain⟨h1_,h2_,h3_⟩:=h_; exact c10 h3_)
 rw[hc_,sMs_no (by rw[hc_]; decide)]
 exact⟨rfl,(Chg.trans (Chg.trans (Chg.refl (fun k_=>k_=gr∨A.map (·.block)=some k_) w) (Chg.below (S:=(fun k_=>k_=gr∨A.map (·.block)=some k_)) b2) (fun _ _ h_=>h_)) (Chg.below (S:=(fun k_=>k_=gr∨A.map (·.block)=some k_)) b9) (fun _ _ h_=>h_)),A,c,(Blk.below hk (bt b2 b9)),(Kd.R_below hR (bt b2 b9)),fun _ h_=>.inl h_⟩
end Go.Proofs.YtlnnjfdonilgmaaGreatDoor
