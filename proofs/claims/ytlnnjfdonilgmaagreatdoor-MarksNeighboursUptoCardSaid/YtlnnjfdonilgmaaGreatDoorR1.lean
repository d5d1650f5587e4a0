import Derived.Test.YtlnnjfdonilgmaaGreatDoorB7b
import Derived.Test.YtlnnjfdonilgmaaGreatDoorMrk
import Derived.Test.YtlnnjfdonilgmaaGreatDoorA2
/- What the references' checks answer: the numbers of the program's own. Conditions: sizes, the tables of utf8. -/
set_option linter.unusedVariables false
set_option linter.unusedSimpArgs false
set_option maxRecDepth 100000
namespace Go.Proofs.YtlnnjfdonilgmaaGreatDoor
open Go Go.RowKit Go.Proofs.YtlnnjfdonilgmaaGreatDoorW.PrintWords RX
theorem ent41 :Ent Tryz.prog 41:=ent_of Tryz.func41 (by kernel_rfl) rfl
theorem ent116 :Ent Tryz.prog 116:=ent_of Tryz.func116 (by kernel_rfl) rfl
theorem ent98 :Ent Tryz.prog 98:=ent_of Tryz.func98 (by kernel_rfl) rfl
theorem ent99 :Ent Tryz.prog 99:=ent_of Tryz.func99 (by kernel_rfl) rfl
theorem ent78 :Ent Tryz.prog 78:=ent_of Tryz.func78 (by kernel_rfl) rfl
theorem uchk_iff (s:ByteArray):(uchk s).2=decide (U.brkAt s=s.size):=by
 rw[U.uchk_eq]
 have h:=U.utf_iff s
 unfold U.utf at h
 by_cases h0:U.tl s=[]
 ·rw[decide_eq_true (h.1 h0)]; simp[h0]
 rw[decide_eq_false (fun e=>h0 (h.2 e))]; simp[h0]
theorem valid_uchk (s:ByteArray):Lib.validD s.data.toList=(uchk s).2:=by
 rw[U.uchk_eq]
 exact U.valid_utf s
theorem utf8_any (s:ByteArray)(w:World)(hs:s.size≤100000000):Rt 41 #[sT s] w (.bool (uchk s).2):=by
 refine en Tryz.func41 rfl 8 [(0,sT s)] (fun R_ hR_=>?_)
 refine sg (xe0 1 [(0,sT s)] ?_)
 refine nl (sg (xr0 1 [(3,sT s)] [] ?_))
 refine xc 56 ent56 [sT s] (breaks_any s _ hs) ?_
 rintro e w1 ⟨rfl,b2⟩; refine⟨_,rfl,?_⟩
 refine xe0 2 [(4,i6 (U.brkAt s:Int)),(6,i6 (s.size:Int))] ?_
 by_cases c3:(U.brkAt s:Int)=(s.size:Int)
 ·refine xe1 2 [(7,.eq bT)] [(2,bT)] (bE c3) ?_
  refine nl (X_ret (rj [bT] hR_ ?_))
  rw[show (uchk s).2=true from by rw[uchk_iff]; exact decide_eq_true (by omega)]
  exact⟨rfl,b2⟩
 refine xe1 2 [(7,.eq bF)] [(2,bF)] (bN c3) ?_
 refine nl (X_ret (rj [bF] hR_ ?_))
 rw[show (uchk s).2=false from by rw[uchk_iff]; exact decide_eq_false (by omega)]
 exact⟨rfl,b2⟩
def txtErr (t:ByteArray):Nat:=if (uchk t).2=false then 1 else if 1048576<t.size then 10 else 0
theorem r2r2text_any (s:ByteArray)(w:World)(hs:s.size≤100000000):Rt 116 #[sT s] w (i6 (txtErr s:Int)):=by
 refine en Tryz.func116 rfl 9 [(0,sT s)] (fun R_ hR_=>?_)
 refine sg (xe0 1 [(0,sT s)] ?_)
 refine nl (sq (sg (xr0 1 [(3,sT s)] [] ?_)))
 refine xc 41 ent41 [sT s] (utf8_any s _ (by omega)) ?_
 rintro e w1 ⟨rfl,b2⟩; refine⟨_,rfl,?_⟩
 by_cases c3:(uchk s).2=true
 ·rw[show ((uchk s).2:Bool)=true from by simpa using c3]
  refine xr0 1 [(5,bF)] [3,4] ?_
  refine nl (cf (sk (sq (sg (xe0 2 [(7,i6 (s.size:Int))] ?_)))))
  by_cases c4:(s.size:Int)>1048576
  ·refine xe1 1 [(8,.eq bT)] [(8,bT)] (dT c4) ?_
   refine nl (ct (sg (xe0 1 [(2,i6 10)] ?_)))
   refine nl (X_ret (rj [i6 10] hR_ ?_))
   rw[show txtErr s=10 from by unfold txtErr; simp_all<;>omega]
   exact⟨rfl,b2⟩
  refine xe1 1 [(8,.eq bF)] [(8,bF)] (dF c4) ?_
  refine nl (cf (sk (sg (xe0 1 [(2,i6 0)] ?_))))
  refine nl (X_ret (rj [i6 0] hR_ ?_))
  rw[show txtErr s=0 from by unfold txtErr; simp_all<;>omega]
  exact⟨rfl,b2⟩
 rw[show ((uchk s).2:Bool)=false from by simpa using c3]
 refine xr0 1 [(5,bT)] [3,4] ?_
 refine nl (ct (sg (xe0 1 [(2,i6 1)] ?_)))
 refine nl (X_ret (rj [i6 1] hR_ ?_))
 rw[show txtErr s=1 from by unfold txtErr; simp_all<;>omega]
 exact⟨rfl,b2⟩
theorem uchk_nil :(uchk ⟨#[]⟩).2=true:=rfl
theorem r2check_any (k n:Int)(t:ByteArray)(w:World)(hs:t.size≤100000000):Rt 98 #[.agg #[i6 k,i6 n,sT t]] w (i6 (plainErr k n t:Int)):=by
 have hz:(⟨#[]⟩:ByteArray).size=0:=rfl
 have hun:=uchk_nil
 refine en Tryz.func98 rfl 43 [(0,.agg #[i6 k,i6 n,sT t])] (fun R_ hR_=>?_)
 refine sg (xwe 1 [] [(1,pw w.heap.size 0)] (w.alloc (.cells #[i6 k,i6 n,sT t] 67)) [] trivial ?_)
 obtain⟨w1,w5,b2,k3,z4⟩:=new_world w #[i6 k,i6 n,sT t] 67
 rw[w5]
 refine xr0 1 [] [] ?_
 refine nl (sq (sg (xr1 2 [(4,.load (i6 k))] [(4,i6 k)] [] (lc 3 k3 0) ?_)))
 refine nl (bk (sq (X_region ?_)))
 by_cases c6:k=0
 ·refine xr1 2 [(6,.eq bT)] [(5,bT)] [] (bE c6) ?_
  refine nl (ct (sg (xr1 2 [(8,.load (i6 n))] [(8,i6 n)] [4,5] (lc 2 k3 1) ?_)))
  by_cases c7:n=0
  ·refine xe 4 [(9,.eq bF),(12,.load (sT t))] [(10,bF),(12,sT t)] [_,_] ⟨nF c7,lc 9 k3 2,trivial⟩ ?_
   by_cases c8:t=(⟨#[]⟩:ByteArray)
   ·refine xe 2 [(13,.eq bF)] [(14,bF)] [Value.bool (!t.toList==(⟨#[]⟩:ByteArray).toList)=bF] ⟨congrArg Value.bool (strNeF (c8)),trivial⟩ ?_
    refine nl (cf (sk (sg (xe0 1 [(2,i6 0)] ?_))))
    refine nl (X_ret (rj [i6 0] hR_ ?_))
    rw[show plainErr k n t=0 from by unfold plainErr plainOk; first|(simp_all; done)|(simp_all; omega)|(simp_all<;>decide)]
    exact⟨rfl,b2⟩
   refine xe 2 [(13,.eq bT)] [(14,bT)] [Value.bool (!t.toList==(⟨#[]⟩:ByteArray).toList)=bT] ⟨congrArg Value.bool (strNeT (c8)),trivial⟩ ?_
   refine nl (ct (sg (xe0 1 [(2,i6 5)] ?_)))
   refine nl (X_ret (rj [i6 5] hR_ ?_))
   rw[show plainErr k n t=5 from by unfold plainErr plainOk; first|(simp_all; done)|(simp_all; omega)|(simp_all<;>decide)]
   exact⟨rfl,b2⟩
  refine xe1 6 [(9,.eq bT)] [(14,bT)] (nT c7) ?_
  refine nl (ct (sg (xe0 1 [(2,i6 5)] ?_)))
  refine nl (X_ret (rj [i6 5] hR_ ?_))
  rw[show plainErr k n t=5 from by unfold plainErr plainOk; first|(simp_all; done)|(simp_all; omega)|(simp_all<;>decide)]
  exact⟨rfl,b2⟩
 refine xr1 2 [(6,.eq bF)] [(5,bF)] [] (bN c6) ?_
 refine nl (cf (sq (X_region ?_)))
 by_cases c9:k=1
 ·refine xr1 2 [(16,.eq bT)] [(15,bT)] [5] (bE c9) ?_
  refine nl (ct (sg (xr1 2 [(18,.load (i6 n))] [(18,i6 n)] [4,15] (lc 2 k3 1) ?_)))
  by_cases c10:n<0
  ·refine xe1 11 [(19,.eq bT)] [(29,bT)] (dT c10) ?_
   refine nl (ct (sg (xe0 1 [(2,i6 5)] ?_)))
   refine nl (X_ret (rj [i6 5] hR_ ?_))
   rw[show plainErr k n t=5 from by unfold plainErr plainOk; first|(simp_all; done)|(simp_all; omega)|(simp_all<;>decide)]
   exact⟨rfl,b2⟩
  refine xe 4 [(19,.eq bF),(22,.load (i6 n))] [(1,pw w.heap.size 0),(20,bF),(22,i6 n)] [_,_] ⟨dF c10,lc 2 k3 1,trivial⟩ ?_
  by_cases c11:n>1
  ·refine xe1 7 [(23,.eq bT)] [(29,bT)] (dT c11) ?_
   refine nl (ct (sg (xe0 1 [(2,i6 5)] ?_)))
   refine nl (X_ret (rj [i6 5] hR_ ?_))
   rw[show plainErr k n t=5 from by unfold plainErr plainOk; first|(simp_all; done)|(simp_all; omega)|(simp_all<;>decide)]
   exact⟨rfl,b2⟩
  refine xe 5 [(23,.eq bF),(27,.load (sT t))] [(25,bF),(27,sT t)] [_,_] ⟨dF c11,lc 9 k3 2,trivial⟩ ?_
  by_cases c12:t=(⟨#[]⟩:ByteArray)
  ·refine xe 2 [(28,.eq bF)] [(29,bF)] [Value.bool (!t.toList==(⟨#[]⟩:ByteArray).toList)=bF] ⟨congrArg Value.bool (strNeF (c12)),trivial⟩ ?_
   refine nl (cf (sk (sg (xe0 1 [(2,i6 0)] ?_))))
   refine nl (X_ret (rj [i6 0] hR_ ?_))
   rw[show plainErr k n t=0 from by unfold plainErr plainOk; first|(simp_all; done)|(simp_all; omega)|(simp_all<;>decide)]
   exact⟨rfl,b2⟩
  refine xe 2 [(28,.eq bT)] [(29,bT)] [Value.bool (!t.toList==(⟨#[]⟩:ByteArray).toList)=bT] ⟨congrArg Value.bool (strNeT (c12)),trivial⟩ ?_
  refine nl (ct (sg (xe0 1 [(2,i6 5)] ?_)))
  refine nl (X_ret (rj [i6 5] hR_ ?_))
  rw[show plainErr k n t=5 from by unfold plainErr plainOk; first|(simp_all; done)|(simp_all; omega)|(simp_all<;>decide)]
  exact⟨rfl,b2⟩
 refine xr1 2 [(16,.eq bF)] [(15,bF)] [5] (bN c9) ?_
 refine nl (cf (sq (X_region ?_)))
 by_cases c13:k=2
 ·refine xr1 2 [(31,.eq bT)] [(30,bT)] [15] (bE c13) ?_
  refine nl (ct (sg (xe1 2 [(33,.load (sT t))] [(33,sT t)] (lc 9 k3 2) ?_)))
  by_cases c14:t=(⟨#[]⟩:ByteArray)
  ·refine xe 1 [(34,.eq bF)] [(34,bF)] [Value.bool (!t.toList==(⟨#[]⟩:ByteArray).toList)=bF] ⟨congrArg Value.bool (strNeF (c14)),trivial⟩ ?_
   refine nl (cf (sk (sg (xe0 1 [(2,i6 0)] ?_))))
   refine nl (X_ret (rj [i6 0] hR_ ?_))
   rw[show plainErr k n t=0 from by unfold plainErr plainOk; first|(simp_all; done)|(simp_all; omega)|(simp_all<;>decide)]
   exact⟨rfl,b2⟩
  refine xe 1 [(34,.eq bT)] [(34,bT)] [Value.bool (!t.toList==(⟨#[]⟩:ByteArray).toList)=bT] ⟨congrArg Value.bool (strNeT (c14)),trivial⟩ ?_
  refine nl (ct (sg (xe0 1 [(2,i6 5)] ?_)))
  refine nl (X_ret (rj [i6 5] hR_ ?_))
  rw[show plainErr k n t=5 from by unfold plainErr plainOk; first|(simp_all; done)|(simp_all; omega)|(simp_all<;>decide)]
  exact⟨rfl,b2⟩
 refine xr1 2 [(31,.eq bF)] [(30,bF)] [15] (bN c13) ?_
 refine nl (cf (sq (X_region ?_)))
 by_cases c15:k=3
 ·refine xe1 2 [(36,.eq bT)] [(1,pw w.heap.size 0),(35,bT)] (bE c15) ?_
  refine nl (ct (sq (sg (xr1 2 [(38,.load (i6 n))] [(38,i6 n)] [35] (lc 2 k3 1) ?_))))
  by_cases c16:n=0
  ·refine xr1 1 [(39,.eq bF)] [(39,bF)] [38] (nF c16) ?_
   refine nl (cf (sk (sg (xe1 2 [(41,.load (sT t))] [(41,sT t)] (lc 9 k3 2) ?_))))
   refine xc 116 ent116 [sT t] (r2r2text_any t _ (by omega)) ?_
   rintro e w17 ⟨rfl,b18⟩; refine⟨_,rfl,?_⟩
   refine xe0 1 [(2,i6 (txtErr t:Int))] ?_
   refine nl (X_ret (rj [i6 (txtErr t:Int)] hR_ ?_))
   rw[show plainErr k n t=txtErr t from by unfold plainErr plainOk txtErr; simp_all]
   exact⟨rfl,(bt b2 b18)⟩
  refine xr1 1 [(39,.eq bT)] [(39,bT)] [38] (nT c16) ?_
  refine nl (ct (sg (xe0 1 [(2,i6 5)] ?_)))
  refine nl (X_ret (rj [i6 5] hR_ ?_))
  rw[show plainErr k n t=5 from by unfold plainErr plainOk; first|(simp_all; done)|(simp_all; omega)|(simp_all<;>decide)]
  exact⟨rfl,b2⟩
 refine xe1 2 [(36,.eq bF)] [(1,pw w.heap.size 0),(35,bF)] (bN c15) ?_
 refine nl (cf (sg (xe0 1 [(2,i6 5)] ?_)))
 refine nl (X_ret (rj [i6 5] hR_ ?_))
 rw[show plainErr k n t=5 from by unfold plainErr plainOk; first|(simp_all; done)|(simp_all; omega)|(simp_all<;>decide)]
 exact⟨rfl,b2⟩
theorem r3pair_any (x:At)(w:World)(h1:x.1.size≤100000000)(h2:x.2.2.2.size≤100000000)(hT:Tabs w):Rt 99 #[.agg (a4 x)] w (i6 (pairErr x:Int)):=by
 have hke:x.1=(⟨#[]⟩:ByteArray)↔x.1.size=0:=by
  constructor
  ·intro e; rw[e]; rfl
  intro e; exact U.bl_inj (List.length_eq_zero_iff.1 (by rw[U.bl_size]; exact e))
 refine en Tryz.func99 rfl 22 [(0,.agg (a4 x))] (fun R_ hR_=>?_)
 refine sg (xwe 1 [] [(1,pw w.heap.size 0)] (w.alloc (.cells (a4 x) 148)) [] trivial ?_)
 obtain⟨w1,w5,b2,k3,z4⟩:=new_world w (a4 x) 148
 rw[w5]
 refine xr0 1 [] [] ?_
 refine nl (sq (bk (sg (xr1 3 [(5,.load (sT x.1))] [(6,i6 (x.1.size:Int))] [] (lc 9 k3 0) ?_))))
 by_cases c6:(x.1.size:Int)<1
 ·refine xr1 8 [(7,.eq bT)] [(3,bT)] [6] (dT c6) ?_
  refine nl (ct (sg (xe0 1 [(2,i6 6)] ?_)))
  refine nl (X_ret (rj [i6 6] hR_ ?_))
  rw[show pairErr x=6 from if_pos (by rw[hke]; omega)]
  exact⟨rfl,b2⟩
 refine xr 5 [(7,.eq bF),(10,.load (sT x.1))] [(8,bF),(11,i6 (x.1.size:Int))] [6] [_,_] ⟨dF c6,lc 9 k3 0,trivial⟩ ?_
 by_cases c7:(x.1.size:Int)>64
 ·refine xr1 3 [(12,.eq bT)] [(3,bT)] [8,11] (dT c7) ?_
  refine nl (ct (sg (xe0 1 [(2,i6 6)] ?_)))
  refine nl (X_ret (rj [i6 6] hR_ ?_))
  rw[show pairErr x=6 from if_pos (by rw[hke]; omega)]
  exact⟨rfl,b2⟩
 refine xr1 3 [(12,.eq bF)] [(3,bF)] [8,11] (dF c7) ?_
 refine nl (cf (sg (xr1 2 [(16,.load (sT x.1))] [(16,sT x.1)] [3] (lc 9 k3 0) ?_)))
 refine xc 117 ent117 [sT x.1] (Tryz.utf8_ValidString x.1 _ (by omega) (hT.below b2)) ?_
 rintro e w8 ⟨rfl,b9⟩; refine⟨_,rfl,?_⟩
 rw[valid_uchk]
 by_cases c10:(uchk x.1).2=true
 ·rw[show ((uchk x.1).2:Bool)=true from by simpa using c10]
  refine xe0 2 [(1,pw w.heap.size 0),(14,bF)] ?_
  refine nl (cf (sk (sg (xe 2 [(20,.load (.agg #[i6 x.2.1,i6 x.2.2.1,sT x.2.2.2]))] [(20,.agg #[i6 x.2.1,i6 x.2.2.1,sT x.2.2.2])] [la 67 (⟨w.heap.size,1,none⟩) (.agg #[i6 x.2.1,i6 x.2.2.1,sT x.2.2.2]) w8] ⟨loadsB rfl rfl (Blk.below k3 b9) 1 ⟨by kernel_rfl,by kernel_rfl⟩,trivial⟩ ?_))))
  refine xc 98 ent98 [.agg #[i6 x.2.1,i6 x.2.2.1,sT x.2.2.2]] (r2check_any x.2.1 x.2.2.1 x.2.2.2 _ (by omega)) ?_
  rintro e w11 ⟨rfl,b12⟩; refine⟨_,rfl,?_⟩
  refine xe0 1 [(2,i6 (plainErr x.2.1 x.2.2.1 x.2.2.2:Int))] ?_
  refine nl (X_ret (rj [i6 (plainErr x.2.1 x.2.2.1 x.2.2.2:Int)] hR_ ?_))
  have hp0:pairErr x=if (uchk x.1).2=false then 1 else plainErr x.2.1 x.2.2.1 x.2.2.2:=if_neg (by rw[hke]; omega)
  rw[show pairErr x=plainErr x.2.1 x.2.2.1 x.2.2.2 from by rw[hp0]; simp[c10]]
  exact⟨rfl,(bt (bt b2 b9) b12)⟩
 rw[show ((uchk x.1).2:Bool)=false from by simpa using c10]
 refine xe0 2 [(1,pw w.heap.size 0),(14,bT)] ?_
 refine nl (ct (sg (xe0 1 [(2,i6 1)] ?_)))
 refine nl (X_ret (rj [i6 1] hR_ ?_))
 have hp0:pairErr x=if (uchk x.1).2=false then 1 else plainErr x.2.1 x.2.2.1 x.2.2.2:=if_neg (by rw[hke]; omega)
 rw[show pairErr x=1 from by rw[hp0]; simp[c10]]
 exact⟨rfl,(bt b2 b9)⟩
theorem geq_iff (a b:ByteArray):(!Op.bytesLess a.toList b.toList)=(Op.bytesLess b.toList a.toList||b.toList==a.toList):=by
 cases h1:Op.bytesLess a.toList b.toList with
 | true=>
  have h2:=kl_asymm (a:=a) (b:=b) h1
  unfold kl at h2
  rw[h2]
  have h3:(b.toList==a.toList)=false:=by rw[beq_eq_false_iff_ne]; exact fun e=>kl_ne (a:=a) (b:=b) h1 (bytes_ext e.symm)
  rw[h3]; rfl
 | false=>
  cases h2:Op.bytesLess b.toList a.toList with
  | true=>rfl
  | false=>rw[kl_tri h1 h2]; simp
set_option maxHeartbeats 1000000 in
theorem r3check_any (A:Option Addr)(c:Nat)(xs:List At)(nulls:Bool)(w:World)(hx:kAttr.C w A xs.length xs)(hsz:∀ i,i<xs.length→(xs.getD i at0).1.size≤100000000∧(xs.getD i at0).2.2.2.size≤100000000)(hT:Tabs w):
  Rt 78 #[.slice A xs.length c,.bool nulls] w (i6 (chkA nulls xs:Int)):=by
 have hpl:xs.length≤9223372036854775807:=hx.2.1
 refine en Tryz.func78 rfl 45 [(0,aL A xs c),(1,.bool nulls)] (fun R_ hR_=>?_)
 refine sg (xe0 1 [(0,aL A xs c),(1,.bool nulls)] ?_)
 refine nl (sq (sg (xr0 3 [(8,aL A xs c),(9,i6 (xs.length:Int)),(10,i6 0)] [] ?_)))
 refine nl (bk (X_loop (ι:=Nat) (fun i=>[(0,aL A xs c),(1,.bool nulls),(8,aL A xs c),(9,i6 (xs.length:Int)),(10,i6 (i:Int))]) (fun i wl=>i≤xs.length∧chkUpto nulls xs i=0∧Below w.heap.size w wl) (fun i=>xs.length-i) 0 ⟨by omega,rfl,(Below.refl _ _)⟩ (by kernel_rfl) ?_))
 rintro i wl ⟨hi,h0,HB⟩
 have hz:((i:Int)-1).toNat=i-1:=by omega
 refine sq (X_region ?_)
 by_cases c1:(i:Int)<(xs.length:Int)
 ·refine xr1 1 [(11,.eq bT)] [(11,bT)] [] (dT c1) ?_
  refine nl (sq (ct (sk (sq (bk (sg (xr0 1 [(12,nv i)] [11] ?_)))))))
  obtain⟨ad2,a3,hc4⟩:=Kd.atAttr (Kd.C_below hx HB) (i:=(i:Int)) (by omega) (by omega)
  replace hc4:CellsAt wl (ad2.add ((i:Int).toNat*4)) [sT ((xs.getD i at0).1),i6 ((xs.getD i at0).2.1),i6 ((xs.getD i at0).2.2.1),sT ((xs.getD i at0).2.2.2)]:=hc4
  refine xw 3 [(13,.idx ad2),(14,.load (.agg (a4 (xs.getD i at0))))] [(6,pw wl.heap.size 0),(14,.agg (a4 (xs.getD i at0)))] [] (wl.alloc (.cells #[s0,i6 0,i6 0,s0] 148)) [A=some ad2,(0:Int)≤(i:Int),(i:Int)<(xs.length:Int),la 148 (ad2.add ((i:Int).toNat*4)) (.agg (a4 (xs.getD i at0))) wl] ⟨a3,(by omega),(by omega),loadsE rfl rfl hc4 0 ⟨by kernel_rfl,by kernel_rfl⟩,trivial⟩ ?_
  obtain⟨w_5,w9,b6,k7,z8⟩:=new_world wl #[s0,i6 0,i6 0,s0] 148
  rw[w9]
  refine xr0 1 [(5,nv i)] [12] ?_
  refine xst (.agg (a4 (xs.getD i at0))) k7 0 (a4 (xs.getD i at0)) (fun w10 g11 k12 z13=>?_)
  refine nl (sg (xr 1 [(15,.load (.agg (a4 (xs.getD i at0))))] [(15,.agg (a4 (xs.getD i at0)))] [14] [la 148 (⟨wl.heap.size,0,none⟩) (.agg (a4 (xs.getD i at0))) w10] ⟨loadsB rfl rfl k12 0 ⟨by kernel_rfl,by kernel_rfl⟩,trivial⟩ ?_))
  refine xc 99 ent99 [.agg (a4 (xs.getD i at0))] (r3pair_any (xs.getD i at0) _ (hsz i (by omega)).1 (hsz i (by omega)).2 (hT.below (bg (bt HB b6) g11 (HB).size))) ?_
  rintro e w14 ⟨rfl,b15⟩; refine⟨_,rfl,?_⟩
  refine xe0 1 [(0,aL A xs c),(1,.bool nulls),(5,nv i),(6,pw wl.heap.size 0),(7,i6 (pairErr (xs.getD i at0):Int)),(8,aL A xs c),(9,i6 (xs.length:Int)),(10,nv i)] ?_
  refine nl (bk (sg (xr0 1 [(18,i6 (pairErr (xs.getD i at0):Int))] [] ?_)))
  by_cases c16:(pairErr (xs.getD i at0):Int)=0
  ·refine xr1 2 [(19,.eq bF)] [(17,bF)] [18] (nF c16) ?_
   refine nl (cf (sg (xr1 3 [(24,.load (i6 ((xs.getD i at0).2.1)))] [(24,i6 ((xs.getD i at0).2.1))] [7,17] (lc 3 (Blk.below k12 b15) 1) ?_)))
   by_cases c17:(xs.getD i at0).2.1=0
   ·refine xr1 3 [(25,.eq bT)] [(26,bT),(27,.bool nulls)] [24] (bE c17) ?_
    by_cases c18:nulls=true
    ·rw[show (nulls:Bool)=true from by simpa using c18]
     refine xr0 3 [(1,bT),(21,bF)] [26,27] ?_
     refine nl (cf (sq (X_still (by kernel_rfl) (by kernel_rfl) (fun wd19 b20 h21=>?_))))
     refine xse 1 [] [(0,aL A xs c),(1,bT),(5,i6 (i:Int)),(6,pw wl.heap.size 0),(8,aL A xs c),(9,i6 (xs.length:Int)),(10,i6 (i:Int)),(31,i6 (i:Int))] [] trivial ?_
     by_cases c22:(i:Int)>0
     ·refine xsC 5 [(32,.eq bT),(36,.eq (i6 ((i:Int)-1)))] [(33,bT),(34,aL A xs c),(36,i6 ((i:Int)-1))] [5,31] [_,_] ⟨dT c22,w6 ((i:Int)-1),trivial⟩ ?_
      have B23:Below w.heap.size w wd19:=(bt (bt (bg (bt HB b6) g11 (HB).size) b15) b20)
      obtain⟨ad24,a25,c26⟩:=Kd.atAttr (Kd.C_below hx B23) (i:=(i:Int)-1) (by omega) (by omega)
      replace c26:CellsAt wd19 (ad24.add (((i:Int)-1).toNat*4)) [sT ((xs.getD ((i:Int)-1).toNat at0).1),i6 ((xs.getD ((i:Int)-1).toNat at0).2.1),i6 ((xs.getD ((i:Int)-1).toNat at0).2.2.1),sT ((xs.getD ((i:Int)-1).toNat at0).2.2.2)]:=c26
      refine xsC 5 [(37,.idx ad24),(39,.load (sT ((xs.getD ((i:Int)-1).toNat at0).1))),(41,.load (sT ((xs.getD i at0).1)))] [(39,sT ((xs.getD ((i:Int)-1).toNat at0).1)),(41,sT ((xs.getD i at0).1))] [6,34,36] [A=some ad24,(0:Int)≤(i:Int)-1,(i:Int)-1<(xs.length:Int),la 9 (ad24.add (((i:Int)-1).toNat*4)) (sT ((xs.getD ((i:Int)-1).toNat at0).1)) wd19,_] ⟨a25,(by omega),(by omega),loads1 rfl (elem_cell c26 0 _ rfl),lc 9 (Blk.below k12 (bt b15 b20)) 0,trivial⟩ ?_
      by_cases c27:(!(Op.bytesLess ((xs.getD ((i:Int)-1).toNat at0).1).toList ((xs.getD i at0).1).toList))=true
      ·refine xsC 3 [(42,.eq bT)] [(30,bT)] [33,39,41] [Value.bool (!(Op.bytesLess ((xs.getD ((i:Int)-1).toNat at0).1).toList ((xs.getD i at0).1).toList))=bT] ⟨congrArg Value.bool (c27),trivial⟩ ?_
       refine XS_nil ?_
       refine ct (sg (xe0 1 [(4,i6 8)] ?_))
       refine nl (X_ret (rj [i6 8] hR_ ?_))
       obtain rfl:nulls=true:=c18
       (try simp only[hz]at *)
       have he:attrAt true xs i=8:=by unfold attrAt; rw[←geq_iff]; simp_all<;>omega
       rw[chkA_stop true xs i (by omega) h0 (by rw[he]; first|decide|(intro e_; omega)),he]
       exact⟨rfl,B23⟩
      refine xsC 3 [(42,.eq bF)] [(30,bF)] [33,39,41] [Value.bool (!(Op.bytesLess ((xs.getD ((i:Int)-1).toNat at0).1).toList ((xs.getD i at0).1).toList))=bF] ⟨congrArg Value.bool (Bool.eq_false_iff.2 (c27)),trivial⟩ ?_
      refine XS_nil ?_
      refine cf (sk (rg (xr1 2 [(44,.eq (i6 ((i:Int)+1)))] [(10,i6 ((i:Int)+1))] [30] (w6 ((i:Int)+1)) ?_)))
      refine nl ?_
      refine⟨(i+1),by kernel_rfl,?_,?_⟩
      ·obtain rfl:nulls=true:=c18
       (try simp only[hz]at *)
       exact⟨by omega,chkUpto_succ _ _ _ h0 (by unfold attrAt; rw[←geq_iff]; simp_all<;>omega),B23⟩
      (try dsimp only); omega
     refine xsC 13 [(32,.eq bF)] [(30,bF)] [5,6,31] [_] ⟨dF c22,trivial⟩ ?_
     refine XS_nil ?_
     refine cf (sk (rg (xr1 2 [(44,.eq (i6 ((i:Int)+1)))] [(10,i6 ((i:Int)+1))] [30] (w6 ((i:Int)+1)) ?_)))
     refine nl ?_
     have B28:Below w.heap.size w wd19:=(bt (bt (bg (bt HB b6) g11 (HB).size) b15) b20)
     refine⟨(i+1),by kernel_rfl,?_,?_⟩
     ·obtain rfl:nulls=true:=c18
      (try simp only[hz]at *)
      exact⟨by omega,chkUpto_succ _ _ _ h0 (by unfold attrAt; rw[←geq_iff]; simp_all<;>omega),B28⟩
     (try dsimp only); omega
    rw[show (nulls:Bool)=false from by simpa using c18]
    refine xr0 3 [(1,bF),(21,bT)] [26,27] ?_
    refine nl (ct (sg (xe0 1 [(4,i6 7)] ?_)))
    refine nl (X_ret (rj [i6 7] hR_ ?_))
    have B29:Below w.heap.size w w14:=(bt (bg (bt HB b6) g11 (HB).size) b15)
    obtain rfl:nulls=false:=Bool.eq_false_iff.2 c18
    (try simp only[hz]at *)
    have he:attrAt false xs i=7:=by unfold attrAt; rw[←geq_iff]; simp_all<;>omega
    rw[chkA_stop false xs i (by omega) h0 (by rw[he]; first|decide|(intro e_; omega)),he]
    exact⟨rfl,B29⟩
   refine xr1 6 [(25,.eq bF)] [(21,bF)] [24] (bN c17) ?_
   refine nl (cf (sq (X_still (by kernel_rfl) (by kernel_rfl) (fun wd30 b31 h32=>?_))))
   refine xsC 1 [] [(31,nv i)] [21] [] trivial ?_
   by_cases c33:(i:Int)>0
   ·refine xse 5 [(32,.eq bT),(36,.eq (i6 ((i:Int)-1)))] [(0,aL A xs c),(1,.bool nulls),(6,pw wl.heap.size 0),(8,aL A xs c),(9,i6 (xs.length:Int)),(10,i6 (i:Int)),(33,bT),(34,aL A xs c),(36,i6 ((i:Int)-1))] [_,_] ⟨dT c33,w6 ((i:Int)-1),trivial⟩ ?_
    have B34:Below w.heap.size w wd30:=(bt (bt (bg (bt HB b6) g11 (HB).size) b15) b31)
    obtain⟨ad35,a36,c37⟩:=Kd.atAttr (Kd.C_below hx B34) (i:=(i:Int)-1) (by omega) (by omega)
    replace c37:CellsAt wd30 (ad35.add (((i:Int)-1).toNat*4)) [sT ((xs.getD ((i:Int)-1).toNat at0).1),i6 ((xs.getD ((i:Int)-1).toNat at0).2.1),i6 ((xs.getD ((i:Int)-1).toNat at0).2.2.1),sT ((xs.getD ((i:Int)-1).toNat at0).2.2.2)]:=c37
    refine xsC 5 [(37,.idx ad35),(39,.load (sT ((xs.getD ((i:Int)-1).toNat at0).1))),(41,.load (sT ((xs.getD i at0).1)))] [(39,sT ((xs.getD ((i:Int)-1).toNat at0).1)),(41,sT ((xs.getD i at0).1))] [6,34,36] [A=some ad35,(0:Int)≤(i:Int)-1,(i:Int)-1<(xs.length:Int),la 9 (ad35.add (((i:Int)-1).toNat*4)) (sT ((xs.getD ((i:Int)-1).toNat at0).1)) wd30,_] ⟨a36,(by omega),(by omega),loads1 rfl (elem_cell c37 0 _ rfl),lc 9 (Blk.below k12 (bt b15 b31)) 0,trivial⟩ ?_
    by_cases c38:(!(Op.bytesLess ((xs.getD ((i:Int)-1).toNat at0).1).toList ((xs.getD i at0).1).toList))=true
    ·refine xsC 3 [(42,.eq bT)] [(30,bT)] [33,39,41] [Value.bool (!(Op.bytesLess ((xs.getD ((i:Int)-1).toNat at0).1).toList ((xs.getD i at0).1).toList))=bT] ⟨congrArg Value.bool (c38),trivial⟩ ?_
     refine XS_nil ?_
     refine ct (sg (xe0 1 [(4,i6 8)] ?_))
     refine nl (X_ret (rj [i6 8] hR_ ?_))
     (try simp only[hz]at *)
     have he:attrAt nulls xs i=8:=by unfold attrAt; rw[←geq_iff]; simp_all<;>omega
     rw[chkA_stop nulls xs i (by omega) h0 (by rw[he]; first|decide|(intro e_; omega)),he]
     exact⟨rfl,B34⟩
    refine xsC 3 [(42,.eq bF)] [(30,bF)] [33,39,41] [Value.bool (!(Op.bytesLess ((xs.getD ((i:Int)-1).toNat at0).1).toList ((xs.getD i at0).1).toList))=bF] ⟨congrArg Value.bool (Bool.eq_false_iff.2 (c38)),trivial⟩ ?_
    refine XS_nil ?_
    refine cf (sk (rg (xr1 2 [(44,.eq (i6 ((i:Int)+1)))] [(10,i6 ((i:Int)+1))] [30] (w6 ((i:Int)+1)) ?_)))
    refine nl ?_
    refine⟨(i+1),by kernel_rfl,?_,?_⟩
    ·(try simp only[hz]at *)
     exact⟨by omega,chkUpto_succ _ _ _ h0 (by unfold attrAt; rw[←geq_iff]; simp_all<;>omega),B34⟩
    (try dsimp only); omega
   refine xse 13 [(32,.eq bF)] [(0,aL A xs c),(1,.bool nulls),(8,aL A xs c),(9,i6 (xs.length:Int)),(10,i6 (i:Int)),(30,bF)] [_] ⟨dF c33,trivial⟩ ?_
   refine XS_nil ?_
   refine cf (sk (rg (xr1 2 [(44,.eq (i6 ((i:Int)+1)))] [(10,i6 ((i:Int)+1))] [30] (w6 ((i:Int)+1)) ?_)))
   refine nl ?_
   have B39:Below w.heap.size w wd30:=(bt (bt (bg (bt HB b6) g11 (HB).size) b15) b31)
   refine⟨(i+1),by kernel_rfl,?_,?_⟩
   ·(try simp only[hz]at *)
    exact⟨by omega,chkUpto_succ _ _ _ h0 (by unfold attrAt; rw[←geq_iff]; simp_all<;>omega),B39⟩
   (try dsimp only); omega
  refine xr1 2 [(19,.eq bT)] [(17,bT)] [18] (nT c16) ?_
  refine nl (ct (sg (xe0 2 [(4,i6 (pairErr (xs.getD i at0):Int))] ?_)))
  refine nl (X_ret (rj [i6 (pairErr (xs.getD i at0):Int)] hR_ ?_))
  have B40:Below w.heap.size w w14:=(bt (bg (bt HB b6) g11 (HB).size) b15)
  (try simp only[hz]at *)
  have he:attrAt nulls xs i=pairErr (xs.getD i at0):=by unfold attrAt; rw[←geq_iff]; simp_all<;>omega
  rw[chkA_stop nulls xs i (by omega) h0 (by rw[he]; first|decide|(intro e_; omega)),he]
  exact⟨rfl,B40⟩
 refine xr1 1 [(11,.eq bF)] [(11,bF)] [] (dF c1) ?_
 refine nl (sq (cf (X_exit (sg (xe0 1 [(4,i6 0)] ?_)))))
 refine nl (X_ret (rj [i6 0] hR_ ?_))
 rw[show chkA nulls xs=0 from by unfold chkA; rw[show xs.length=i from by omega]; exact h0]
 exact⟨rfl,HB⟩
end Go.Proofs.YtlnnjfdonilgmaaGreatDoor
