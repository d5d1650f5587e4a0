import Derived.Test.YtlnnjfdonilgmaaGreatDoorMk
import Derived.Test.YtlnnjfdonilgmaaGreatDoorO3
import Derived.Test.YtlnnjfdonilgmaaGreatDoorAn2
import Derived.Test.YtlnnjfdonilgmaaGreatDoorBld
import Derived.Test.YtlnnjfdonilgmaaGreatDoorUtf4
/- What pieces and values answer; pieces as operations. Conditions: sizes. -/
set_option linter.unusedVariables false
set_option linter.unusedSimpArgs false
set_option maxRecDepth 100000
namespace Go.Proofs.YtlnnjfdonilgmaaGreatDoor
open Go Go.RowKit Go.Proofs.YtlnnjfdonilgmaaGreatDoorW.PrintWords RX
theorem ent143 :Ent Tryz.prog 143:=ent_of Tryz.func143 (by kernel_rfl) rfl
theorem ent118 :Ent Tryz.prog 118:=ent_of Tryz.func118 (by kernel_rfl) rfl
theorem plainOk_kind {k n:Int}{t:ByteArray}(h:plainOk k n t=true):(k=0∧n=0∧t=⟨#[]⟩)∨(k=1∧(n=0∨n=1)∧t=⟨#[]⟩)∨(k=2∧t=⟨#[]⟩)∨(k=3∧n=0):=of_decide_eq_true h
theorem refuse_of {o:OpA}(h:pErr o=0)(hk:o.kind=1∨o.kind=2):refuseP o=0:=by
 have h1:=B.has_ok h
 unfold pErr at h
 rwa [h1,if_neg (by simp),if_pos hk]at h
theorem ok_emb {o:OpA}(h:pErr o=0)(hk:o.kind=2):plainOk o.vk o.vn o.vt=true∧o=⟨2,o.text,o.vk,o.vn,o.vt,0,o.attrs⟩:=by
 have h0:=refuse_of h (.inr hk)
 have h2:=(refuse_utf h0).2.1 hk
 refine⟨?_,?_⟩
 ·unfold plainErr at h2
  cases h3:plainOk o.vk o.vn o.vt with
  | true=>rfl
  | false=>rw[if_pos h3]at h2; cases h2
 have hc:o.count=0:=by unfold refuseP at h0; repeat (split at h0<;>first|omega|skip)
 cases o
 simp only at*
 subst hk hc
 rfl
theorem ok_txt {o:OpA}(h:pErr o=0)(hk:o.kind=1):o=⟨1,o.text,0,0,⟨#[]⟩,0,o.attrs⟩:=by
 obtain⟨a,b,c,d,_⟩:=B.ok_ins h hk
 cases o
 simp only at*
 subst hk a b c d
 rfl
theorem flagPlain_any (k n:Int)(t:ByteArray)(w:World)(h:plainOk k n t=true)(hk:k=1):Rt 151 #[.bool (decide (n=1))] w (.agg #[i6 k,i6 n,sT t]):=by
 have h':=plainOk_kind h
 have ht:  t=⟨#[]⟩:=by rcases h' with h'|h'|h'|h'<;>simp_all<;>omega
 have hn:(n=1)∨n=0:=by rcases h' with h'|h'|h'|h'<;>simp_all<;>omega
 subst hk
 refine en Tryz.func151 rfl 6 [(0,.bool (decide (n=1)))] (fun R_ hR_=>?_)
 refine sg (xwe 1 [] [(0,.bool (decide (n=1))),(2,pw w.heap.size 0)] (w.alloc (.cells #[i6 0,i6 0,s0] 67)) [] trivial ?_)
 obtain⟨w1,w5,b2,k3,z4⟩:=new_world w #[i6 0,i6 0,s0] 67
 rw[w5]
 refine nl (sq (sg (xr0 1 [(3,.bool (decide (n=1)))] [0] ?_)))
 refine nl ?_
 by_cases c6:decide (n=1)=true
 ·rw[show (decide (n=1):Bool)=true from by simpa using c6]
  refine ct (sg (xr0 1 [(4,.agg #[i6 1,i6 1,s0])] [3] ?_))
  refine xst (.agg #[i6 1,i6 1,s0]) k3 0 #[i6 1,i6 1,s0] (fun w7 g8 k9 z10=>?_)
  refine nl (X_ret (RX.ret_cell (P:=Tryz.prog) (fn:=Tryz.f151) (N:=6) (R:=R_) (c:=2) (t:=67) (p:=⟨w.heap.size,0,none⟩) (v:=.agg #[i6 1,i6 1,s0]) rfl rfl (lB k9 0) (hR_ _ _ ?_)))
  subst ht
  obtain rfl:n=1:=by have h1_:=c6; have h2_:=hn; simp at h1_; omega
  exact⟨rfl,(bg b2 g8 (Nat.le_refl _))⟩
 rw[show (decide (n=1):Bool)=false from by simpa using c6]
 refine cf (sk (sg (xr0 1 [(5,.agg #[i6 1,i6 0,s0])] [3] ?_)))
 refine xst (.agg #[i6 1,i6 0,s0]) k3 0 #[i6 1,i6 0,s0] (fun w_11 g12 k13 z14=>?_)
 refine nl (X_ret (RX.ret_cell (P:=Tryz.prog) (fn:=Tryz.f151) (N:=6) (R:=R_) (c:=2) (t:=67) (p:=⟨w.heap.size,0,none⟩) (v:=.agg #[i6 1,i6 0,s0]) rfl rfl (lB k13 0) (hR_ _ _ ?_)))
 subst ht
 obtain rfl:n=0:=by have h1_:=c6; have h2_:=hn; simp at h1_; omega
 exact⟨rfl,(bg b2 g12 (Nat.le_refl _))⟩
theorem numberPlain_any (k n:Int)(t:ByteArray)(w:World)(h:plainOk k n t=true)(hk:k=2):Rt 153 #[i6 n] w (.agg #[i6 k,i6 n,sT t]):=by
 have h':=plainOk_kind h
 have ht:  t=⟨#[]⟩:=by rcases h' with h'|h'|h'|h'<;>simp_all<;>omega
 have hn:k=2∨n=0:=by rcases h' with h'|h'|h'|h'<;>simp_all<;>omega
 subst hk
 refine en Tryz.func153 rfl 5 [(0,i6 n)] (fun R_ hR_=>?_)
 refine sg (xwe 1 [] [(0,i6 n),(2,pw w.heap.size 0)] (w.alloc (.cells #[i6 0,i6 0,s0] 67)) [] trivial ?_)
 obtain⟨w1,w5,b2,k3,z4⟩:=new_world w #[i6 0,i6 0,s0] 67
 rw[w5]
 refine nl (sg (xr0 2 [(4,.agg #[i6 2,i6 n,s0])] [0] ?_))
 refine xst (.agg #[i6 2,i6 n,s0]) k3 0 #[i6 2,i6 n,s0] (fun w_6 g7 k8 z9=>?_)
 refine nl (X_ret (RX.ret_cell (P:=Tryz.prog) (fn:=Tryz.f153) (N:=5) (R:=R_) (c:=2) (t:=67) (p:=⟨w.heap.size,0,none⟩) (v:=.agg #[i6 2,i6 n,s0]) rfl rfl (lB k8 0) (hR_ _ _ ?_)))
 subst ht
 exact⟨rfl,(bg b2 g7 (Nat.le_refl _))⟩
theorem textPlain_any (k n:Int)(t:ByteArray)(w:World)(h:plainOk k n t=true)(hk:k=3):Rt 155 #[sT t] w (.agg #[i6 k,i6 n,sT t]):=by
 have h':=plainOk_kind h
 have ht:k=3∨t=⟨#[]⟩:=by rcases h' with h'|h'|h'|h'<;>simp_all<;>omega
 have hn:  n=0:=by rcases h' with h'|h'|h'|h'<;>simp_all<;>omega
 subst hk
 refine en Tryz.func155 rfl 5 [(0,sT t)] (fun R_ hR_=>?_)
 refine sg (xwe 1 [] [(0,sT t),(2,pw w.heap.size 0)] (w.alloc (.cells #[i6 0,i6 0,s0] 67)) [] trivial ?_)
 obtain⟨w1,w5,b2,k3,z4⟩:=new_world w #[i6 0,i6 0,s0] 67
 rw[w5]
 refine nl (sg (xr0 2 [(4,.agg #[i6 3,i6 0,sT t])] [0] ?_))
 refine xst (.agg #[i6 3,i6 0,sT t]) k3 0 #[i6 3,i6 0,sT t] (fun w_6 g7 k8 z9=>?_)
 refine nl (X_ret (RX.ret_cell (P:=Tryz.prog) (fn:=Tryz.f155) (N:=5) (R:=R_) (c:=2) (t:=67) (p:=⟨w.heap.size,0,none⟩) (v:=.agg #[i6 3,i6 0,sT t]) rfl rfl (lB k8 0) (hR_ _ _ ?_)))
 subst hn
 exact⟨rfl,(bg b2 g7 (Nat.le_refl _))⟩
theorem nullPlain_any (k n:Int)(t:ByteArray)(w:World)(h:plainOk k n t=true)(hk:k=0):Rt 157 #[.agg #[]] w (.agg #[i6 k,i6 n,sT t]):=by
 have h':=plainOk_kind h
 have ht:  t=⟨#[]⟩:=by rcases h' with h'|h'|h'|h'<;>simp_all<;>omega
 have hn:  n=0:=by rcases h' with h'|h'|h'|h'<;>simp_all<;>omega
 subst hk
 refine en Tryz.func157 rfl 4 [(0,.agg #[])] (fun R_ hR_=>?_)
 refine sg (xwe 1 [] [] (w.alloc (.cells #[] 207)) [] trivial ?_)
 obtain⟨w1,w5,b2,k3,z4⟩:=new_world w #[] 207
 rw[w5]
 refine xwe 1 [] [(2,pw w1.heap.size 0)] (w1.alloc (.cells #[i6 0,i6 0,s0] 67)) [] trivial ?_
 obtain⟨w_6,w10,b7,k8,z9⟩:=new_world w1 #[i6 0,i6 0,s0] 67
 rw[w10]
 refine nl (sg (xr0 1 [(3,.agg #[i6 0,i6 0,s0])] [] ?_))
 refine xst (.agg #[i6 0,i6 0,s0]) k8 0 #[i6 0,i6 0,s0] (fun w_11 g12 k13 z14=>?_)
 refine nl (X_ret (RX.ret_cell (P:=Tryz.prog) (fn:=Tryz.f157) (N:=4) (R:=R_) (c:=2) (t:=67) (p:=⟨w1.heap.size,0,none⟩) (v:=.agg #[i6 0,i6 0,s0]) rfl rfl (lB k13 0) (hR_ _ _ ?_)))
 subst ht
 subst hn
 exact⟨rfl,(bg (bt b2 b7) g12 (b2).size)⟩
theorem retainLen_any (A:Option Addr)(n c:Nat)(k:Int)(w:World):Rt 144 #[.agg #[.slice A n c,i6 k]] w (i6 k):=by
 refine en Tryz.func144 rfl 5 [(0,.agg #[.slice A n c,i6 k])] (fun R_ hR_=>?_)
 refine sg (xwe 1 [] [(1,pw w.heap.size 0)] (w.alloc (.cells #[.slice A n c,i6 k] 131)) [] trivial ?_)
 obtain⟨w1,w5,b2,k3,z4⟩:=new_world w #[.slice A n c,i6 k] 131
 rw[w5]
 refine xr0 1 [] [] ?_
 refine nl (sg (xe1 3 [(4,.load (i6 k))] [(2,i6 k)] (lc 3 k3 1) ?_))
 refine nl (X_ret (rj [i6 k] hR_ ?_))
 exact⟨rfl,b2⟩
theorem deleteLen_any (k:Int)(w:World):Rt 141 #[.agg #[i6 k]] w (i6 k):=by
 refine en Tryz.func141 rfl 5 [(0,.agg #[i6 k])] (fun R_ hR_=>?_)
 refine sg (xwe 1 [] [(1,pw w.heap.size 0)] (w.alloc (.cells #[i6 k] 126)) [] trivial ?_)
 obtain⟨w1,w5,b2,k3,z4⟩:=new_world w #[i6 k] 126
 rw[w5]
 refine xr0 1 [] [] ?_
 refine nl (sg (xe1 3 [(4,.load (i6 k))] [(2,i6 k)] (lc 3 k3 0) ?_))
 refine nl (X_ret (rj [i6 k] hR_ ?_))
 exact⟨rfl,b2⟩
theorem attributes_any (A:Option Addr)(c:Nat)(xs:List At)(w:World)(hx:kAttr.C w A xs.length xs)(hn:xs.length≤100000000):Calls Tryz.prog 143 #[.agg #[.slice A xs.length c]] w fun e w'=>∃ A' c',e=.returned (.slice A' xs.length c')∧xs.length≤c'∧kAttr.R 148 w' w.heap.size (OkFrom w.heap.size) (.slice A' xs.length c') xs∧Below w.heap.size w w':=by
 have hpl:xs.length≤9223372036854775807:=hx.2.1
 refine en Tryz.func143 rfl 6 [(0,.agg #[aL A xs c])] (fun R_ hR_=>?_)
 refine sg (xwe 1 [] [(1,pw w.heap.size 0)] (w.alloc (.cells #[aL A xs c] 129)) [] trivial ?_)
 obtain⟨w1,w5,b2,k3,z4⟩:=new_world w #[aL A xs c] 129
 rw[w5]
 refine xr0 1 [] [] ?_
 refine nl (sg (xe1 2 [(4,.load (aL A xs c))] [(4,aL A xs c)] (lc 68 k3 0) ?_))
 refine XL_appendAll (c':=c) kAttr rfl rfl rfl w.heap.size 148 (.agg #[s0,i6 0,i6 0,s0]) 48 Tryz.underlying68 info148 rfl (by decide) (by omega) ([]) xs (by kernel_rfl) (Kd.R_nil kAttr 148 _ w.heap.size (OkFrom w.heap.size)) (Kd.C_below hx b2) kAttr_KM (b2).size (by first|omega|(simp; omega)) ?_
 intro A6 c7 w8 r9 c10 g11 l12 a13
 have e14:([]++xs)=xs:=List.nil_append _
 rw[e14]at r9 ⊢
 refine xe0 1 [(2,aL A6 xs c7)] ?_
 refine nl (X_ret (rj [aL A6 xs c7] hR_ ?_))
 exact⟨_,_,rfl,(RX.Kd.R_len r9).2,Kd.R_low r9 (Nat.le_refl _),(bgo b2 g11 l12 (Nat.le_refl _))⟩
theorem insertOp_any (A:Option Addr)(c:Nat)(xs:List At)(t:ByteArray)(n:Int)(w:World)(hx:kAttr.C w A xs.length xs)(hn:xs.length≤100000000):Calls Tryz.prog 147 #[.agg #[.slice A xs.length c,sT t,i6 n]] w fun e w'=>∃ A' c',e=.returned (.agg #[i6 1,sT t,i6 0,i6 0,s0,i6 0,.slice A' xs.length c'])∧xs.length≤c'∧kAttr.R 148 w' w.heap.size (OkFrom w.heap.size) (.slice A' xs.length c') xs∧Below w.heap.size w w':=by
 have hpl:xs.length≤9223372036854775807:=hx.2.1
 refine en Tryz.func147 rfl 9 [(0,.agg #[.slice A xs.length c,sT t,i6 n])] (fun R_ hR_=>?_)
 refine sg (xwe 1 [] [(1,pw w.heap.size 0)] (w.alloc (.cells #[.slice A xs.length c,sT t,i6 n] 153)) [] trivial ?_)
 obtain⟨w1,w5,b2,k3,z4⟩:=new_world w #[.slice A xs.length c,sT t,i6 n] 153
 rw[w5]
 refine xw 1 [] [(2,pw w1.heap.size 0)] [] (w1.alloc (.cells #[i6 0,s0,i6 0,i6 0,s0,i6 0,.slice none 0 0] 70)) [] trivial ?_
 obtain⟨w_6,w10,b7,k8,z9⟩:=new_world w1 #[i6 0,s0,i6 0,i6 0,s0,i6 0,.slice none 0 0] 70
 rw[w10]
 refine nl (sq (X_gen (S:=fun w_=>RX.Blk w_ w.heap.size 153 #[.slice A xs.length c,sT t,i6 n]) [] 7 (tf 0 7) (by kernel_rfl) (by kernel_rfl) (by kernel_rfl) (fun wd11 b12 h13=>?_)))
 refine XG_runC (fuel':=3) (Blk.below k3 (bt b7 b12)) [0,1,2,3] [(4,.load (sT t)),(6,.load (.agg #[aL A xs c]))] [pw w.heap.size 1,sT t,pw w.heap.size 0,.agg #[aL A xs c]] (tf 4 3) [(4,sT t),(6,.agg #[aL A xs c])] [1] (fun w_=>[la 9 (⟨w.heap.size,1,none⟩) (sT t) w_,la 129 (⟨w.heap.size,0,none⟩) (.agg #[aL A xs c]) w_]) (fun w_ hC_=>⟨loads1 rfl (Blk.cell hC_ 1 _ rfl),loadsB rfl rfl hC_ 0 ⟨by kernel_rfl,by kernel_rfl⟩,trivial⟩) ?_
 refine XG_mid (fuel':=2) 4 (tf 5 2) _ rfl (by kernel_rfl) (by kernel_rfl) rfl ?_
 refine xc 143 ent143 [.agg #[aL A xs c]] (attributes_any _ _ xs _ (Kd.C_below hx (bt (bt b2 b7) b12)) (by omega)) ?_
 rintro e w16 ⟨A14,c15,rfl,l18,r19,b17⟩; refine⟨_,rfl,?_⟩
 refine nl ?_
 refine⟨(Blk.below k3 (bt (bt b7 b12) b17)),?_⟩
 refine XG_runC (fuel':=1) (Blk.below k3 (bt (bt b7 b12) b17)) [5] [] [.agg #[i6 1,sT t,i6 0,i6 0,s0,i6 0,aL A14 xs c15]] (tf 6 1) [(8,.agg #[i6 1,sT t,i6 0,i6 0,s0,i6 0,aL A14 xs c15])] [4,6,7] (fun w_=>[]) (fun w_ hC_=>trivial) ?_
 refine XG_mid (fuel':=0) 6 (tf 7 0) _ rfl (by kernel_rfl) (by kernel_rfl) rfl ?_
 refine xst (.agg #[i6 1,sT t,i6 0,i6 0,s0,i6 0,aL A14 xs c15]) (Blk.below k8 (bt b12 b17)) 0 #[i6 1,sT t,i6 0,i6 0,s0,i6 0,aL A14 xs c15] (fun w20 g21 k22 z23=>?_)
 have r24:=RX.Kd.R_past r19 g21 (Nat.lt_of_lt_of_le (Blk.lt k8) (b12).size)
 refine nl ?_
 have B25:Below w1.heap.size w1 w20:=(bg (bt (bt b7 b12) b17) g21 (Nat.le_refl _))
 refine⟨(Blk.below k3 B25),?_⟩
 refine XG_done (by kernel_rfl) ?_
 refine X_ret (RX.ret_cell (P:=Tryz.prog) (fn:=Tryz.f147) (N:=9) (R:=R_) (c:=2) (t:=70) (p:=⟨w1.heap.size,0,none⟩) (v:=.agg #[i6 1,sT t,i6 0,i6 0,s0,i6 0,aL A14 xs c15]) rfl rfl (lB k22 0) (hR_ _ _ ?_))
 have B26:Below w.heap.size w w20:=(bg (bt (bt (bt b2 b7) b12) b17) g21 (b2).size)
 exact⟨_,_,rfl,l18,Kd.R_low r24 ((bt (bt b2 b7) b12)).size,B26⟩
theorem embedOp_any (o:OpA)(A:Option Addr)(c:Nat)(w:World)(hx:kAttr.C w A o.attrs.length o.attrs)(hn:o.attrs.length≤100000000)(hv:plainOk o.vk o.vn o.vt=true):Calls Tryz.prog 149 #[.agg #[.slice A o.attrs.length c,sT o.text,valV (o.vk,o.vn,o.vt)]] w fun e w'=>∃ A' c',e=.returned (.agg #[i6 2,sT o.text,i6 o.vk,i6 o.vn,sT o.vt,i6 0,.slice A' o.attrs.length c'])∧o.attrs.length≤c'∧kAttr.R 148 w' w.heap.size (OkFrom w.heap.size) (.slice A' o.attrs.length c') o.attrs∧Below w.heap.size w w':=by
 have hpl:o.attrs.length≤9223372036854775807:=hx.2.1
 refine en Tryz.func149 rfl 12 [(0,.agg #[.slice A o.attrs.length c,sT o.text,valV (o.vk,o.vn,o.vt)])] (fun R_ hR_=>?_)
 refine sq (X_region ?_)
 by_cases c1:o.vk=1
 ·rw[valV1 (v:=(o.vk,o.vn,o.vt)) c1]
  refine xwe 1 [] [(1,pw w.heap.size 0)] (w.alloc (.cells #[.slice A o.attrs.length c,sT o.text,.iface 203 (.bool (decide (o.vn=1)))] 157)) [] trivial ?_
  obtain⟨w2,hw6,b3,k4,z5⟩:=new_world w #[.slice A o.attrs.length c,sT o.text,.iface 203 (.bool (decide (o.vn=1)))] 157
  rw[hw6]
  refine xw 1 [] [(2,pw w2.heap.size 0)] [] (w2.alloc (.cells #[i6 0,s0,i6 0,i6 0,s0,i6 0,.slice none 0 0] 70)) [] trivial ?_
  obtain⟨w7,w11,b8,k9,z10⟩:=new_world w2 #[i6 0,s0,i6 0,i6 0,s0,i6 0,.slice none 0 0] 70
  rw[w11]
  refine nl (sq (X_gen (S:=fun w_=>RX.Blk w_ w.heap.size 157 #[.slice A o.attrs.length c,sT o.text,.iface 203 (.bool (decide (o.vn=1)))]) [] 10 (tf 0 10) (by kernel_rfl) (by kernel_rfl) (by kernel_rfl) (fun wd12 b13 h14=>?_)))
  refine XG_runC (fuel':=4) (Blk.below k4 (bt b8 b13)) [0,1,2,3,5,6] [(4,.load (sT o.text)),(6,.load (.iface 203 (.bool (decide (o.vn=1))))),(9,.load (.agg #[aL A o.attrs c]))] [pw w.heap.size 1,sT o.text,pw w.heap.size 2,.iface 203 (.bool (decide (o.vn=1))),pw w.heap.size 0,.agg #[aL A o.attrs c]] #[true,true,true,true,false,true,true,false,false,false] [(4,sT o.text),(6,.iface 203 (.bool (decide (o.vn=1)))),(9,.agg #[aL A o.attrs c])] [1] (fun w_=>[la 9 (⟨w.heap.size,1,none⟩) (sT o.text) w_,la 155 (⟨w.heap.size,2,none⟩) (.iface 203 (.bool (decide (o.vn=1)))) w_,la 129 (⟨w.heap.size,0,none⟩) (.agg #[aL A o.attrs c]) w_]) (fun w_ hC_=>⟨loads1 rfl (Blk.cell hC_ 1 _ rfl),loads1 rfl (Blk.cell hC_ 2 _ rfl),loadsB rfl rfl hC_ 0 ⟨by kernel_rfl,by kernel_rfl⟩,trivial⟩) ?_
  refine XG_mid (fuel':=3) 4 (tf 7 3) _ rfl (by kernel_rfl) (by kernel_rfl) rfl ?_
  refine XL_inv 151 #[.bool (decide (o.vn=1))] rfl rfl (by kernel_rfl) (by kernel_rfl) (flagPlain_any o.vk o.vn o.vt _ hv c1) ?_
  rintro e w15 ⟨rfl,b16⟩; refine⟨_,rfl,?_⟩
  refine nl ?_
  refine⟨(Blk.below k4 (bt (bt b8 b13) b16)),?_⟩
  refine XG_mid (fuel':=2) 7 (tf 8 2) _ rfl (by kernel_rfl) (by kernel_rfl) rfl ?_
  refine xc 143 ent143 [.agg #[aL A o.attrs c]] (attributes_any _ _ o.attrs _ (Kd.C_below hx (bt (bt (bt b3 b8) b13) b16)) (by omega)) ?_
  rintro e w19 ⟨A17,c18,rfl,l21,r22,b20⟩; refine⟨_,rfl,?_⟩
  refine nl ?_
  refine⟨(Blk.below k4 (bt (bt (bt b8 b13) b16) b20)),?_⟩
  refine XG_runC (fuel':=1) (Blk.below k4 (bt (bt (bt b8 b13) b16) b20)) [8] [] [.agg #[i6 2,sT o.text,i6 o.vk,i6 o.vn,sT o.vt,i6 0,aL A17 o.attrs c18]] (tf 9 1) [(11,.agg #[i6 2,sT o.text,i6 o.vk,i6 o.vn,sT o.vt,i6 0,aL A17 o.attrs c18])] [4,6,7,9,10] (fun w_=>[]) (fun w_ hC_=>trivial) ?_
  refine XG_mid (fuel':=0) 9 (tf 10 0) _ rfl (by kernel_rfl) (by kernel_rfl) rfl ?_
  refine xst (.agg #[i6 2,sT o.text,i6 o.vk,i6 o.vn,sT o.vt,i6 0,aL A17 o.attrs c18]) (Blk.below k9 (bt (bt b13 b16) b20)) 0 #[i6 2,sT o.text,i6 o.vk,i6 o.vn,sT o.vt,i6 0,aL A17 o.attrs c18] (fun w23 g24 k25 z26=>?_)
  have r27:=RX.Kd.R_past r22 g24 (Nat.lt_of_lt_of_le (Blk.lt k9) ((bt b13 b16)).size)
  refine nl ?_
  have B28:Below w2.heap.size w2 w23:=(bg (bt (bt (bt b8 b13) b16) b20) g24 (Nat.le_refl _))
  refine⟨(Blk.below k4 B28),?_⟩
  refine XG_done (by kernel_rfl) ?_
  refine X_ret (RX.ret_cell (P:=Tryz.prog) (fn:=Tryz.f149) (N:=12) (R:=R_) (c:=2) (t:=70) (p:=⟨w2.heap.size,0,none⟩) (v:=.agg #[i6 2,sT o.text,i6 o.vk,i6 o.vn,sT o.vt,i6 0,aL A17 o.attrs c18]) rfl rfl (lB k25 0) (hR_ _ _ ?_))
  have B29:Below w.heap.size w w23:=(bg (bt (bt (bt (bt b3 b8) b13) b16) b20) g24 (b3).size)
  exact⟨_,_,rfl,l21,Kd.R_low r27 ((bt (bt (bt b3 b8) b13) b16)).size,B29⟩
 by_cases c30:o.vk=2
 ·rw[valV2 (v:=(o.vk,o.vn,o.vt)) c1 c30]
  refine xwe 1 [] [(1,pw w.heap.size 0)] (w.alloc (.cells #[.slice A o.attrs.length c,sT o.text,.iface 204 (i6 o.vn)] 157)) [] trivial ?_
  obtain⟨w31,w35,b32,k33,z34⟩:=new_world w #[.slice A o.attrs.length c,sT o.text,.iface 204 (i6 o.vn)] 157
  rw[w35]
  refine xw 1 [] [(2,pw w31.heap.size 0)] [] (w31.alloc (.cells #[i6 0,s0,i6 0,i6 0,s0,i6 0,.slice none 0 0] 70)) [] trivial ?_
  obtain⟨w36,w40,b37,k38,z39⟩:=new_world w31 #[i6 0,s0,i6 0,i6 0,s0,i6 0,.slice none 0 0] 70
  rw[w40]
  refine nl (sq (X_gen (S:=fun w_=>RX.Blk w_ w.heap.size 157 #[.slice A o.attrs.length c,sT o.text,.iface 204 (i6 o.vn)]) [] 10 (tf 0 10) (by kernel_rfl) (by kernel_rfl) (by kernel_rfl) (fun wd41 b42 h43=>?_)))
  refine XG_runC (fuel':=4) (Blk.below k33 (bt b37 b42)) [0,1,2,3,5,6] [(4,.load (sT o.text)),(6,.load (.iface 204 (i6 o.vn))),(9,.load (.agg #[aL A o.attrs c]))] [pw w.heap.size 1,sT o.text,pw w.heap.size 2,.iface 204 (i6 o.vn),pw w.heap.size 0,.agg #[aL A o.attrs c]] #[true,true,true,true,false,true,true,false,false,false] [(4,sT o.text),(6,.iface 204 (i6 o.vn)),(9,.agg #[aL A o.attrs c])] [1] (fun w_=>[la 9 (⟨w.heap.size,1,none⟩) (sT o.text) w_,la 155 (⟨w.heap.size,2,none⟩) (.iface 204 (i6 o.vn)) w_,la 129 (⟨w.heap.size,0,none⟩) (.agg #[aL A o.attrs c]) w_]) (fun w_ hC_=>⟨loads1 rfl (Blk.cell hC_ 1 _ rfl),loads1 rfl (Blk.cell hC_ 2 _ rfl),loadsB rfl rfl hC_ 0 ⟨by kernel_rfl,by kernel_rfl⟩,trivial⟩) ?_
  refine XG_mid (fuel':=3) 4 (tf 7 3) _ rfl (by kernel_rfl) (by kernel_rfl) rfl ?_
  refine XL_inv 153 #[i6 o.vn] rfl rfl (by kernel_rfl) (by kernel_rfl) (numberPlain_any o.vk o.vn o.vt _ hv c30) ?_
  rintro e w44 ⟨rfl,b45⟩; refine⟨_,rfl,?_⟩
  refine nl ?_
  refine⟨(Blk.below k33 (bt (bt b37 b42) b45)),?_⟩
  refine XG_mid (fuel':=2) 7 (tf 8 2) _ rfl (by kernel_rfl) (by kernel_rfl) rfl ?_
  refine xc 143 ent143 [.agg #[aL A o.attrs c]] (attributes_any _ _ o.attrs _ (Kd.C_below hx (bt (bt (bt b32 b37) b42) b45)) (by omega)) ?_
  rintro e w48 ⟨A46,c47,rfl,l50,r51,b49⟩; refine⟨_,rfl,?_⟩
  refine nl ?_
  refine⟨(Blk.below k33 (bt (bt (bt b37 b42) b45) b49)),?_⟩
  refine XG_runC (fuel':=1) (Blk.below k33 (bt (bt (bt b37 b42) b45) b49)) [8] [] [.agg #[i6 2,sT o.text,i6 o.vk,i6 o.vn,sT o.vt,i6 0,aL A46 o.attrs c47]] (tf 9 1) [(11,.agg #[i6 2,sT o.text,i6 o.vk,i6 o.vn,sT o.vt,i6 0,aL A46 o.attrs c47])] [4,6,7,9,10] (fun w_=>[]) (fun w_ hC_=>trivial) ?_
  refine XG_mid (fuel':=0) 9 (tf 10 0) _ rfl (by kernel_rfl) (by kernel_rfl) rfl ?_
  refine xst (.agg #[i6 2,sT o.text,i6 o.vk,i6 o.vn,sT o.vt,i6 0,aL A46 o.attrs c47]) (Blk.below k38 (bt (bt b42 b45) b49)) 0 #[i6 2,sT o.text,i6 o.vk,i6 o.vn,sT o.vt,i6 0,aL A46 o.attrs c47] (fun w52 g53 k54 z55=>?_)
  have r56:=RX.Kd.R_past r51 g53 (Nat.lt_of_lt_of_le (Blk.lt k38) ((bt b42 b45)).size)
  refine nl ?_
  have B57:Below w31.heap.size w31 w52:=(bg (bt (bt (bt b37 b42) b45) b49) g53 (Nat.le_refl _))
  refine⟨(Blk.below k33 B57),?_⟩
  refine XG_done (by kernel_rfl) ?_
  refine X_ret (RX.ret_cell (P:=Tryz.prog) (fn:=Tryz.f149) (N:=12) (R:=R_) (c:=2) (t:=70) (p:=⟨w31.heap.size,0,none⟩) (v:=.agg #[i6 2,sT o.text,i6 o.vk,i6 o.vn,sT o.vt,i6 0,aL A46 o.attrs c47]) rfl rfl (lB k54 0) (hR_ _ _ ?_))
  have B58:Below w.heap.size w w52:=(bg (bt (bt (bt (bt b32 b37) b42) b45) b49) g53 (b32).size)
  exact⟨_,_,rfl,l50,Kd.R_low r56 ((bt (bt (bt b32 b37) b42) b45)).size,B58⟩
 by_cases c59:o.vk=3
 ·rw[valV3 (v:=(o.vk,o.vn,o.vt)) c1 c30 c59]
  refine xwe 1 [] [(1,pw w.heap.size 0)] (w.alloc (.cells #[.slice A o.attrs.length c,sT o.text,.iface 205 (sT o.vt)] 157)) [] trivial ?_
  obtain⟨w60,w64,b61,k62,z63⟩:=new_world w #[.slice A o.attrs.length c,sT o.text,.iface 205 (sT o.vt)] 157
  rw[w64]
  refine xw 1 [] [(2,pw w60.heap.size 0)] [] (w60.alloc (.cells #[i6 0,s0,i6 0,i6 0,s0,i6 0,.slice none 0 0] 70)) [] trivial ?_
  obtain⟨w65,w69,b66,k67,z68⟩:=new_world w60 #[i6 0,s0,i6 0,i6 0,s0,i6 0,.slice none 0 0] 70
  rw[w69]
  refine nl (sq (X_gen (S:=fun w_=>RX.Blk w_ w.heap.size 157 #[.slice A o.attrs.length c,sT o.text,.iface 205 (sT o.vt)]) [] 10 (tf 0 10) (by kernel_rfl) (by kernel_rfl) (by kernel_rfl) (fun wd70 b71 h72=>?_)))
  refine XG_runC (fuel':=4) (Blk.below k62 (bt b66 b71)) [0,1,2,3,5,6] [(4,.load (sT o.text)),(6,.load (.iface 205 (sT o.vt))),(9,.load (.agg #[aL A o.attrs c]))] [pw w.heap.size 1,sT o.text,pw w.heap.size 2,.iface 205 (sT o.vt),pw w.heap.size 0,.agg #[aL A o.attrs c]] #[true,true,true,true,false,true,true,false,false,false] [(4,sT o.text),(6,.iface 205 (sT o.vt)),(9,.agg #[aL A o.attrs c])] [1] (fun w_=>[la 9 (⟨w.heap.size,1,none⟩) (sT o.text) w_,la 155 (⟨w.heap.size,2,none⟩) (.iface 205 (sT o.vt)) w_,la 129 (⟨w.heap.size,0,none⟩) (.agg #[aL A o.attrs c]) w_]) (fun w_ hC_=>⟨loads1 rfl (Blk.cell hC_ 1 _ rfl),loads1 rfl (Blk.cell hC_ 2 _ rfl),loadsB rfl rfl hC_ 0 ⟨by kernel_rfl,by kernel_rfl⟩,trivial⟩) ?_
  refine XG_mid (fuel':=3) 4 (tf 7 3) _ rfl (by kernel_rfl) (by kernel_rfl) rfl ?_
  refine XL_inv 155 #[sT o.vt] rfl rfl (by kernel_rfl) (by kernel_rfl) (textPlain_any o.vk o.vn o.vt _ hv c59) ?_
  rintro e w73 ⟨rfl,b74⟩; refine⟨_,rfl,?_⟩
  refine nl ?_
  refine⟨(Blk.below k62 (bt (bt b66 b71) b74)),?_⟩
  refine XG_mid (fuel':=2) 7 (tf 8 2) _ rfl (by kernel_rfl) (by kernel_rfl) rfl ?_
  refine xc 143 ent143 [.agg #[aL A o.attrs c]] (attributes_any _ _ o.attrs _ (Kd.C_below hx (bt (bt (bt b61 b66) b71) b74)) (by omega)) ?_
  rintro e w77 ⟨A75,c76,rfl,l79,r80,b78⟩; refine⟨_,rfl,?_⟩
  refine nl ?_
  refine⟨(Blk.below k62 (bt (bt (bt b66 b71) b74) b78)),?_⟩
  refine XG_runC (fuel':=1) (Blk.below k62 (bt (bt (bt b66 b71) b74) b78)) [8] [] [.agg #[i6 2,sT o.text,i6 o.vk,i6 o.vn,sT o.vt,i6 0,aL A75 o.attrs c76]] (tf 9 1) [(11,.agg #[i6 2,sT o.text,i6 o.vk,i6 o.vn,sT o.vt,i6 0,aL A75 o.attrs c76])] [4,6,7,9,10] (fun w_=>[]) (fun w_ hC_=>trivial) ?_
  refine XG_mid (fuel':=0) 9 (tf 10 0) _ rfl (by kernel_rfl) (by kernel_rfl) rfl ?_
  refine xst (.agg #[i6 2,sT o.text,i6 o.vk,i6 o.vn,sT o.vt,i6 0,aL A75 o.attrs c76]) (Blk.below k67 (bt (bt b71 b74) b78)) 0 #[i6 2,sT o.text,i6 o.vk,i6 o.vn,sT o.vt,i6 0,aL A75 o.attrs c76] (fun w81 g82 k83 z84=>?_)
  have r85:=RX.Kd.R_past r80 g82 (Nat.lt_of_lt_of_le (Blk.lt k67) ((bt b71 b74)).size)
  refine nl ?_
  have B86:Below w60.heap.size w60 w81:=(bg (bt (bt (bt b66 b71) b74) b78) g82 (Nat.le_refl _))
  refine⟨(Blk.below k62 B86),?_⟩
  refine XG_done (by kernel_rfl) ?_
  refine X_ret (RX.ret_cell (P:=Tryz.prog) (fn:=Tryz.f149) (N:=12) (R:=R_) (c:=2) (t:=70) (p:=⟨w60.heap.size,0,none⟩) (v:=.agg #[i6 2,sT o.text,i6 o.vk,i6 o.vn,sT o.vt,i6 0,aL A75 o.attrs c76]) rfl rfl (lB k83 0) (hR_ _ _ ?_))
  have B87:Below w.heap.size w w81:=(bg (bt (bt (bt (bt b61 b66) b71) b74) b78) g82 (b61).size)
  exact⟨_,_,rfl,l79,Kd.R_low r85 ((bt (bt (bt b61 b66) b71) b74)).size,B87⟩
 rw[valV0 (v:=(o.vk,o.vn,o.vt)) c1 c30 c59]
 refine xwe 1 [] [(1,pw w.heap.size 0)] (w.alloc (.cells #[.slice A o.attrs.length c,sT o.text,.iface 207 (.agg #[])] 157)) [] trivial ?_
 obtain⟨w88,w92,b89,k90,z91⟩:=new_world w #[.slice A o.attrs.length c,sT o.text,.iface 207 (.agg #[])] 157
 rw[w92]
 refine xw 1 [] [(2,pw w88.heap.size 0)] [] (w88.alloc (.cells #[i6 0,s0,i6 0,i6 0,s0,i6 0,.slice none 0 0] 70)) [] trivial ?_
 obtain⟨w93,w97,b94,k95,z96⟩:=new_world w88 #[i6 0,s0,i6 0,i6 0,s0,i6 0,.slice none 0 0] 70
 rw[w97]
 refine nl (sq (X_gen (S:=fun w_=>RX.Blk w_ w.heap.size 157 #[.slice A o.attrs.length c,sT o.text,.iface 207 (.agg #[])]) [] 10 (tf 0 10) (by kernel_rfl) (by kernel_rfl) (by kernel_rfl) (fun wd98 b99 h100=>?_)))
 refine XG_runC (fuel':=4) (Blk.below k90 (bt b94 b99)) [0,1,2,3,5,6] [(4,.load (sT o.text)),(6,.load (.iface 207 (.agg #[]))),(9,.load (.agg #[aL A o.attrs c]))] [pw w.heap.size 1,sT o.text,pw w.heap.size 2,.iface 207 (.agg #[]),pw w.heap.size 0,.agg #[aL A o.attrs c]] #[true,true,true,true,false,true,true,false,false,false] [(4,sT o.text),(6,.iface 207 (.agg #[])),(9,.agg #[aL A o.attrs c])] [1] (fun w_=>[la 9 (⟨w.heap.size,1,none⟩) (sT o.text) w_,la 155 (⟨w.heap.size,2,none⟩) (.iface 207 (.agg #[])) w_,la 129 (⟨w.heap.size,0,none⟩) (.agg #[aL A o.attrs c]) w_]) (fun w_ hC_=>⟨loads1 rfl (Blk.cell hC_ 1 _ rfl),loads1 rfl (Blk.cell hC_ 2 _ rfl),loadsB rfl rfl hC_ 0 ⟨by kernel_rfl,by kernel_rfl⟩,trivial⟩) ?_
 refine XG_mid (fuel':=3) 4 (tf 7 3) _ rfl (by kernel_rfl) (by kernel_rfl) rfl ?_
 refine XL_inv 157 #[.agg #[]] rfl rfl (by kernel_rfl) (by kernel_rfl) (nullPlain_any o.vk o.vn o.vt _ hv (by have h_:=plainOk_kind hv; omega)) ?_
 rintro e w101 ⟨rfl,b102⟩; refine⟨_,rfl,?_⟩
 refine nl ?_
 refine⟨(Blk.below k90 (bt (bt b94 b99) b102)),?_⟩
 refine XG_mid (fuel':=2) 7 (tf 8 2) _ rfl (by kernel_rfl) (by kernel_rfl) rfl ?_
 refine xc 143 ent143 [.agg #[aL A o.attrs c]] (attributes_any _ _ o.attrs _ (Kd.C_below hx (bt (bt (bt b89 b94) b99) b102)) (by omega)) ?_
 rintro e w105 ⟨A103,c104,rfl,l107,r108,b106⟩; refine⟨_,rfl,?_⟩
 refine nl ?_
 refine⟨(Blk.below k90 (bt (bt (bt b94 b99) b102) b106)),?_⟩
 refine XG_runC (fuel':=1) (Blk.below k90 (bt (bt (bt b94 b99) b102) b106)) [8] [] [.agg #[i6 2,sT o.text,i6 o.vk,i6 o.vn,sT o.vt,i6 0,aL A103 o.attrs c104]] (tf 9 1) [(11,.agg #[i6 2,sT o.text,i6 o.vk,i6 o.vn,sT o.vt,i6 0,aL A103 o.attrs c104])] [4,6,7,9,10] (fun w_=>[]) (fun w_ hC_=>trivial) ?_
 refine XG_mid (fuel':=0) 9 (tf 10 0) _ rfl (by kernel_rfl) (by kernel_rfl) rfl ?_
 refine xst (.agg #[i6 2,sT o.text,i6 o.vk,i6 o.vn,sT o.vt,i6 0,aL A103 o.attrs c104]) (Blk.below k95 (bt (bt b99 b102) b106)) 0 #[i6 2,sT o.text,i6 o.vk,i6 o.vn,sT o.vt,i6 0,aL A103 o.attrs c104] (fun w109 g110 k111 z112=>?_)
 have r113:=RX.Kd.R_past r108 g110 (Nat.lt_of_lt_of_le (Blk.lt k95) ((bt b99 b102)).size)
 refine nl ?_
 have B114:Below w88.heap.size w88 w109:=(bg (bt (bt (bt b94 b99) b102) b106) g110 (Nat.le_refl _))
 refine⟨(Blk.below k90 B114),?_⟩
 refine XG_done (by kernel_rfl) ?_
 refine X_ret (RX.ret_cell (P:=Tryz.prog) (fn:=Tryz.f149) (N:=12) (R:=R_) (c:=2) (t:=70) (p:=⟨w88.heap.size,0,none⟩) (v:=.agg #[i6 2,sT o.text,i6 o.vk,i6 o.vn,sT o.vt,i6 0,aL A103 o.attrs c104]) rfl rfl (lB k111 0) (hR_ _ _ ?_))
 have B115:Below w.heap.size w w109:=(bg (bt (bt (bt (bt b89 b94) b99) b102) b106) g110 (b89).size)
 exact⟨_,_,rfl,l107,Kd.R_low r113 ((bt (bt (bt b89 b94) b99) b102)).size,B115⟩
theorem retOp_any (A:Option Addr)(c:Nat)(xs:List At)(n:Int)(w:World)(hx:kAttr.C w A xs.length xs)(hn:xs.length≤100000000):Calls Tryz.prog 145 #[.agg #[.slice A xs.length c,i6 n]] w fun e w'=>∃ A' c',e=.returned (.agg #[i6 3,s0,i6 0,i6 0,s0,i6 n,.slice A' xs.length c'])∧xs.length≤c'∧kAttr.R 148 w' w.heap.size (OkFrom w.heap.size) (.slice A' xs.length c') xs∧Below w.heap.size w w':=by
 have hpl:xs.length≤9223372036854775807:=hx.2.1
 refine en Tryz.func145 rfl 9 [(0,.agg #[.slice A xs.length c,i6 n])] (fun R_ hR_=>?_)
 refine sg (xwe 1 [] [(1,pw w.heap.size 0)] (w.alloc (.cells #[.slice A xs.length c,i6 n] 131)) [] trivial ?_)
 obtain⟨w1,w5,b2,k3,z4⟩:=new_world w #[.slice A xs.length c,i6 n] 131
 rw[w5]
 refine xw 1 [] [(2,pw w1.heap.size 0)] [] (w1.alloc (.cells #[i6 0,s0,i6 0,i6 0,s0,i6 0,.slice none 0 0] 70)) [] trivial ?_
 obtain⟨w_6,w10,b7,k8,z9⟩:=new_world w1 #[i6 0,s0,i6 0,i6 0,s0,i6 0,.slice none 0 0] 70
 rw[w10]
 refine nl (sq (X_gen (S:=fun w_=>RX.Blk w_ w.heap.size 131 #[.slice A xs.length c,i6 n]) [] 7 (tf 0 7) (by kernel_rfl) (by kernel_rfl) (by kernel_rfl) (fun wd11 b12 h13=>?_)))
 refine XG_runC (fuel':=3) (Blk.below k3 (bt b7 b12)) [0,1,2,3] [(4,.load (i6 n)),(6,.load (.agg #[aL A xs c]))] [pw w.heap.size 1,i6 n,pw w.heap.size 0,.agg #[aL A xs c]] (tf 4 3) [(4,i6 n),(6,.agg #[aL A xs c])] [1] (fun w_=>[la 3 (⟨w.heap.size,1,none⟩) (i6 n) w_,la 129 (⟨w.heap.size,0,none⟩) (.agg #[aL A xs c]) w_]) (fun w_ hC_=>⟨loads1 rfl (Blk.cell hC_ 1 _ rfl),loadsB rfl rfl hC_ 0 ⟨by kernel_rfl,by kernel_rfl⟩,trivial⟩) ?_
 refine XG_mid (fuel':=2) 4 (tf 5 2) _ rfl (by kernel_rfl) (by kernel_rfl) rfl ?_
 refine xc 143 ent143 [.agg #[aL A xs c]] (attributes_any _ _ xs _ (Kd.C_below hx (bt (bt b2 b7) b12)) (by omega)) ?_
 rintro e w16 ⟨A14,c15,rfl,l18,r19,b17⟩; refine⟨_,rfl,?_⟩
 refine nl ?_
 refine⟨(Blk.below k3 (bt (bt b7 b12) b17)),?_⟩
 refine XG_runC (fuel':=1) (Blk.below k3 (bt (bt b7 b12) b17)) [5] [] [.agg #[i6 3,s0,i6 0,i6 0,s0,i6 n,aL A14 xs c15]] (tf 6 1) [(8,.agg #[i6 3,s0,i6 0,i6 0,s0,i6 n,aL A14 xs c15])] [4,6,7] (fun w_=>[]) (fun w_ hC_=>trivial) ?_
 refine XG_mid (fuel':=0) 6 (tf 7 0) _ rfl (by kernel_rfl) (by kernel_rfl) rfl ?_
 refine xst (.agg #[i6 3,s0,i6 0,i6 0,s0,i6 n,aL A14 xs c15]) (Blk.below k8 (bt b12 b17)) 0 #[i6 3,s0,i6 0,i6 0,s0,i6 n,aL A14 xs c15] (fun w20 g21 k22 z23=>?_)
 have r24:=RX.Kd.R_past r19 g21 (Nat.lt_of_lt_of_le (Blk.lt k8) (b12).size)
 refine nl ?_
 have B25:Below w1.heap.size w1 w20:=(bg (bt (bt b7 b12) b17) g21 (Nat.le_refl _))
 refine⟨(Blk.below k3 B25),?_⟩
 refine XG_done (by kernel_rfl) ?_
 refine X_ret (RX.ret_cell (P:=Tryz.prog) (fn:=Tryz.f145) (N:=9) (R:=R_) (c:=2) (t:=70) (p:=⟨w1.heap.size,0,none⟩) (v:=.agg #[i6 3,s0,i6 0,i6 0,s0,i6 n,aL A14 xs c15]) rfl rfl (lB k22 0) (hR_ _ _ ?_))
 have B26:Below w.heap.size w w20:=(bg (bt (bt (bt b2 b7) b12) b17) g21 (b2).size)
 exact⟨_,_,rfl,l18,Kd.R_low r24 ((bt (bt b2 b7) b12)).size,B26⟩
theorem delOp_any (n:Int)(w:World):Rt 142 #[.agg #[i6 n]] w (.agg #[i6 4,s0,i6 0,i6 0,s0,i6 n,.slice none 0 0]):=by
 refine en Tryz.func142 rfl 6 [(0,.agg #[i6 n])] (fun R_ hR_=>?_)
 refine sg (xwe 1 [] [(1,pw w.heap.size 0)] (w.alloc (.cells #[i6 n] 126)) [] trivial ?_)
 obtain⟨w1,w5,b2,k3,z4⟩:=new_world w #[i6 n] 126
 rw[w5]
 refine xw 1 [] [(2,pw w1.heap.size 0)] [] (w1.alloc (.cells #[i6 0,s0,i6 0,i6 0,s0,i6 0,.slice none 0 0] 70)) [] trivial ?_
 obtain⟨w_6,w10,b7,k8,z9⟩:=new_world w1 #[i6 0,s0,i6 0,i6 0,s0,i6 0,.slice none 0 0] 70
 rw[w10]
 refine nl (sg (xr1 3 [(4,.load (i6 n))] [(5,.agg #[i6 4,s0,i6 0,i6 0,s0,i6 n,.slice none 0 0])] [1] (lc 3 (Blk.below k3 b7) 0) ?_))
 refine xst (.agg #[i6 4,s0,i6 0,i6 0,s0,i6 n,.slice none 0 0]) k8 0 #[i6 4,s0,i6 0,i6 0,s0,i6 n,.slice none 0 0] (fun w_11 g12 k13 z14=>?_)
 refine nl (X_ret (RX.ret_cell (P:=Tryz.prog) (fn:=Tryz.f142) (N:=6) (R:=R_) (c:=2) (t:=70) (p:=⟨w1.heap.size,0,none⟩) (v:=.agg #[i6 4,s0,i6 0,i6 0,s0,i6 n,.slice none 0 0]) rfl rfl (lB k13 0) (hR_ _ _ ?_)))
 exact⟨rfl,(bg (bt b2 b7) g12 (b2).size)⟩
set_option maxHeartbeats 2000000 in
theorem bplain_any (A:Option Addr)(c:Nat)(xs:List OpA)(w:World)(hb:badE xs=0)(hx:kPiece.C w A (xs.map pOf).length (xs.map pOf))(hn:xs.length≤1100000)(hz:∀ i,i<xs.length→opSz (xs.getD i op0)):
  Calls Tryz.prog 118 #[aL A (xs.map pOf) c] w fun e w'=>∃ A' c',e=.returned (aL A' xs c')∧xs.length≤c'∧kOp.R 70 w' w.heap.size (OkFrom w.heap.size) (aL A' xs c') xs∧Below w.heap.size w w':=by
 have hlen:(xs.map pOf).length=xs.length:=List.length_map ..
 have hpl:(xs.map pOf).length≤9223372036854775807:=hx.2.1
 refine en Tryz.func118 rfl 22 [(0,aL A (xs.map pOf) c)] (fun R_ hR_=>?_)
 refine sg (xe0 1 [(0,aL A (xs.map pOf) c)] ?_)
 refine nl (sg (xr0 2 [(7,i6 ((xs.map pOf).length:Int))] [] ?_))
 refine XL_makeCap kOp rfl rfl rfl 70 (.agg #[i6 0,s0,i6 0,i6 0,s0,i6 0,.slice none 0 0]) 88 ((xs.map pOf).length:Int) (by kernel_rfl) Tryz.underlying32 info70 rfl (by decide) (by omega) op0 (kOp_M0 op0 rfl) (by omega) (by omega) ?_
 intro A1 c2 w3 r4 c5 b6
 refine xr0 1 [(3,.slice A1 0 c2)] [7,8] ?_
 refine nl (sq (sg (xr0 3 [(9,aL A (xs.map pOf) c),(10,i6 ((xs.map pOf).length:Int)),(11,i6 0)] [0] ?_)))
 refine nl (bk (X_loop (ι:=Nat×Option Addr×Nat×List OpA) (fun⟨i,A3,c3,zs3⟩=>[(3,aL A3 zs3 c3),(9,aL A (xs.map pOf) c),(10,i6 ((xs.map pOf).length:Int)),(11,i6 (i:Int))]) (fun⟨i,A3,c3,zs3⟩ wl=>i≤xs.length∧zs3=xs.take i∧kOp.R 70 wl w.heap.size (OkFrom w.heap.size) (aL A3 zs3 c3) zs3∧w.heap.size≤wl.heap.size∧Below w.heap.size w wl) (fun⟨i,A3,c3,zs3⟩=>xs.length-i) (0,A1,c2,[]) ⟨by omega,rfl,r4,(b6).size,b6⟩ (by kernel_rfl) ?_))
 rintro⟨i,A3,c3,zs3⟩ wl ⟨hi,he3,hr3,hle3,HB⟩
 have hzl:zs3.length=min i xs.length:=by rw[he3,List.length_take]
 refine sq (X_region ?_)
 by_cases c7:(i:Int)<((xs.map pOf).length:Int)
 ·refine xr1 1 [(12,.eq bT)] [(12,bT)] [] (dT c7) ?_
  refine nl (sq (ct (sk (sq (bk (sq (X_region ?_)))))))
  obtain⟨ad8,v11,a9,c10,K12⟩:=Kd.atPiece (Kd.C_below hx HB) (i:=(i:Int)) (by omega) (by omega)
  replace K12:kPiece.K wl ((xs.map pOf).getD i piece0) [v11]:=K12
  refine xr 1 [(13,.idx ad8)] [(13,.pointer (some (ad8.add ((i:Int).toNat*1))))] [12] [A=some ad8,(0:Int)≤(i:Int),(i:Int)<((xs.map pOf).length:Int)] ⟨a9,(by omega),(by omega),trivial⟩ ?_
  rw[map_getD pOf op0 piece0 (show i<xs.length by omega)]at K12
  have hpe13:=badE_getD hb (show i<xs.length by omega)
  have hszi:=hz i (by omega)
  rcases kind_of_ok hpe13 with hk|hk|hk|hk
  ·rw[pOf_ins hk]at K12
   obtain⟨A14,c15,e16,l17,C18⟩:=kPiece_ins K12
   obtain rfl:=(List.cons.inj e16).1
   refine xr 2 [(14,.load (.iface 153 (.agg #[.slice A14 ((xs.getD i op0).attrs.length) c15,sT ((xs.getD i op0).text),i6 ((U.sc (xs.getD i op0).text).length:Int)])))] [(5,.iface 153 (.agg #[.slice A14 ((xs.getD i op0).attrs.length) c15,sT ((xs.getD i op0).text),i6 ((U.sc (xs.getD i op0).text).length:Int)]))] [13] [la 123 (ad8.add ((i:Int).toNat*1)) (.iface 153 (.agg #[.slice A14 ((xs.getD i op0).attrs.length) c15,sT ((xs.getD i op0).text),i6 ((U.sc (xs.getD i op0).text).length:Int)])) wl] ⟨loads1 rfl (elem_cell c10 0 _ rfl),trivial⟩ ?_
   refine nl (rg (xr0 2 [(15,aL A3 zs3 c3),(16,.iface 153 (.agg #[.slice A14 ((xs.getD i op0).attrs.length) c15,sT ((xs.getD i op0).text),i6 ((U.sc (xs.getD i op0).text).length:Int)]))] [3,5] ?_))
   have hatl:=hszi.2.2.1
   refine XL_inv 147 #[.agg #[.slice A14 ((xs.getD i op0).attrs.length) c15,sT ((xs.getD i op0).text),i6 ((U.sc (xs.getD i op0).text).length:Int)]] rfl rfl (by kernel_rfl) (by kernel_rfl) (insertOp_any _ _ (xs.getD i op0).attrs (xs.getD i op0).text _ _ C18 (by omega)) ?_
   rintro e w21 ⟨A19,c20,rfl,l23,r24,b22⟩; refine⟨_,rfl,?_⟩
   refine xw 1 [] [(18,.slice (some ⟨w21.heap.size,0,none⟩) 1 1)] [16,17] (w21.alloc (.cells #[i6 1,sT ((xs.getD i op0).text),i6 0,i6 0,s0,i6 0,aL A19 (xs.getD i op0).attrs c20] 70)) [] trivial ?_
   obtain⟨w25,w29,b26,k27,z28⟩:=new_world w21 #[i6 1,sT ((xs.getD i op0).text),i6 0,i6 0,s0,i6 0,aL A19 (xs.getD i op0).attrs c20] 70
   rw[w29]
   obtain⟨okp30,M31,hok32⟩:=Kd.M_rowApart r24 hle3 (Kd.R_below hr3 b22) (by decide)
   rw[←w29]
   refine XL_append kOp rfl rfl rfl w.heap.size 70 (.agg #[i6 0,s0,i6 0,i6 0,s0,i6 0,.slice none 0 0]) 88 Tryz.underlying32 info70 rfl (by decide) (by omega) zs3 (⟨1,(xs.getD i op0).text,0,0,ByteArray.empty,0,(xs.getD i op0).attrs⟩:OpA) [i6 1,sT ((xs.getD i op0).text),i6 0,i6 0,s0,i6 0,aL A19 (xs.getD i op0).attrs c20] okp30 (by kernel_rfl) (kOp_M (x:=(⟨1,(xs.getD i op0).text,0,0,ByteArray.empty,0,(xs.getD i op0).attrs⟩:OpA)) M31) hok32 (Kd.R_below hr3 b22) ((bt HB b22)).size (by first|omega|(simp; omega)) ?_
   intro A33 c34 w_35 r36 c37 g38 l39 a40
   have e42:(zs3++[(⟨1,(xs.getD i op0).text,0,0,ByteArray.empty,0,(xs.getD i op0).attrs⟩:OpA)])=(xs.take (i+1)):=by rw[he3,show (⟨1,(xs.getD i op0).text,0,0,ByteArray.empty,0,(xs.getD i op0).attrs⟩:OpA)=(xs.getD i op0)from(ok_txt hpe13 hk).symm]; exact(take_snocD op0 xs i (by omega)).symm
   rw[e42]at r36 ⊢
   refine xe0 1 [(3,aL A33 (xs.take (i+1)) c34),(9,aL A (xs.map pOf) c),(10,i6 ((xs.map pOf).length:Int)),(11,nv i)] ?_
   refine nl (rg (xr1 2 [(20,.eq (i6 ((i:Int)+1)))] [(11,i6 ((i:Int)+1))] [] (w6 ((i:Int)+1)) ?_))
   refine nl ?_
   have B43:Below w.heap.size w w_35:=(bgo (bt HB b22) g38 l39 (Nat.le_refl _))
   refine⟨(i+1,A33,c34,(xs.take (i+1))),by kernel_rfl,?_,?_⟩
   ·exact⟨by omega,rfl,r36,(B43).size,B43⟩
   (try dsimp only); omega
  ·rw[pOf_emb hk]at K12
   obtain⟨A44,c45,e46,l47,C48⟩:=kPiece_emb K12
   obtain rfl:=(List.cons.inj e46).1
   have hval:(xs.getD i op0).val=((xs.getD i op0).vk,(xs.getD i op0).vn,(xs.getD i op0).vt):=rfl
   rw[hval]at c10
   refine xr 2 [(14,.load (.iface 157 (.agg #[.slice A44 ((xs.getD i op0).attrs.length) c45,sT ((xs.getD i op0).text),valV ((xs.getD i op0).vk,(xs.getD i op0).vn,(xs.getD i op0).vt)])))] [(5,.iface 157 (.agg #[.slice A44 ((xs.getD i op0).attrs.length) c45,sT ((xs.getD i op0).text),valV ((xs.getD i op0).vk,(xs.getD i op0).vn,(xs.getD i op0).vt)]))] [13] [la 123 (ad8.add ((i:Int).toNat*1)) (.iface 157 (.agg #[.slice A44 ((xs.getD i op0).attrs.length) c45,sT ((xs.getD i op0).text),valV ((xs.getD i op0).vk,(xs.getD i op0).vn,(xs.getD i op0).vt)])) wl] ⟨loads1 rfl (elem_cell c10 0 _ rfl),trivial⟩ ?_
   refine nl (rg (xr0 2 [(15,aL A3 zs3 c3),(16,.iface 157 (.agg #[.slice A44 ((xs.getD i op0).attrs.length) c45,sT ((xs.getD i op0).text),valV ((xs.getD i op0).vk,(xs.getD i op0).vn,(xs.getD i op0).vt)]))] [3,5] ?_))
   have hatl:=hszi.2.2.1
   refine XL_inv 149 #[.agg #[.slice A44 ((xs.getD i op0).attrs.length) c45,sT ((xs.getD i op0).text),valV ((xs.getD i op0).vk,(xs.getD i op0).vn,(xs.getD i op0).vt)]] rfl rfl (by kernel_rfl) (by kernel_rfl) (embedOp_any (xs.getD i op0) _ _ _ C48 (by omega) (ok_emb hpe13 hk).1) ?_
   rintro e w51 ⟨A49,c50,rfl,l53,r54,b52⟩; refine⟨_,rfl,?_⟩
   refine xw 1 [] [(18,.slice (some ⟨w51.heap.size,0,none⟩) 1 1)] [16,17] (w51.alloc (.cells #[i6 2,sT ((xs.getD i op0).text),i6 ((xs.getD i op0).vk),i6 ((xs.getD i op0).vn),sT ((xs.getD i op0).vt),i6 0,aL A49 (xs.getD i op0).attrs c50] 70)) [] trivial ?_
   obtain⟨w55,w59,b56,k57,z58⟩:=new_world w51 #[i6 2,sT ((xs.getD i op0).text),i6 ((xs.getD i op0).vk),i6 ((xs.getD i op0).vn),sT ((xs.getD i op0).vt),i6 0,aL A49 (xs.getD i op0).attrs c50] 70
   rw[w59]
   obtain⟨okp60,M61,hok62⟩:=Kd.M_rowApart r54 hle3 (Kd.R_below hr3 b52) (by decide)
   rw[←w59]
   refine XL_append kOp rfl rfl rfl w.heap.size 70 (.agg #[i6 0,s0,i6 0,i6 0,s0,i6 0,.slice none 0 0]) 88 Tryz.underlying32 info70 rfl (by decide) (by omega) zs3 (⟨2,(xs.getD i op0).text,(xs.getD i op0).vk,(xs.getD i op0).vn,(xs.getD i op0).vt,0,(xs.getD i op0).attrs⟩:OpA) [i6 2,sT ((xs.getD i op0).text),i6 ((xs.getD i op0).vk),i6 ((xs.getD i op0).vn),sT ((xs.getD i op0).vt),i6 0,aL A49 (xs.getD i op0).attrs c50] okp60 (by kernel_rfl) (kOp_M (x:=(⟨2,(xs.getD i op0).text,(xs.getD i op0).vk,(xs.getD i op0).vn,(xs.getD i op0).vt,0,(xs.getD i op0).attrs⟩:OpA)) M61) hok62 (Kd.R_below hr3 b52) ((bt HB b52)).size (by first|omega|(simp; omega)) ?_
   intro A63 c64 w65 r66 c67 g68 l69 a70
   have e72:(zs3++[(⟨2,(xs.getD i op0).text,(xs.getD i op0).vk,(xs.getD i op0).vn,(xs.getD i op0).vt,0,(xs.getD i op0).attrs⟩:OpA)])=(xs.take (i+1)):=by rw[he3,show (⟨2,(xs.getD i op0).text,(xs.getD i op0).vk,(xs.getD i op0).vn,(xs.getD i op0).vt,0,(xs.getD i op0).attrs⟩:OpA)=(xs.getD i op0)from(ok_emb hpe13 hk).2.symm]; exact(take_snocD op0 xs i (by omega)).symm
   rw[e72]at r66 ⊢
   refine xe0 1 [(3,aL A63 (xs.take (i+1)) c64),(9,aL A (xs.map pOf) c),(10,i6 ((xs.map pOf).length:Int)),(11,nv i)] ?_
   refine nl (rg (xr1 2 [(20,.eq (i6 ((i:Int)+1)))] [(11,i6 ((i:Int)+1))] [] (w6 ((i:Int)+1)) ?_))
   refine nl ?_
   have B73:Below w.heap.size w w65:=(bgo (bt HB b52) g68 l69 (Nat.le_refl _))
   refine⟨(i+1,A63,c64,(xs.take (i+1))),by kernel_rfl,?_,?_⟩
   ·exact⟨by omega,rfl,r66,(B73).size,B73⟩
   (try dsimp only); omega
  ·rw[pOf_ret hk]at K12
   obtain⟨A74,c75,e76,l77,C78⟩:=kPiece_ret K12
   obtain rfl:=(List.cons.inj e76).1
   refine xr 2 [(14,.load (.iface 131 (.agg #[.slice A74 ((xs.getD i op0).attrs.length) c75,i6 ((xs.getD i op0).count)])))] [(5,.iface 131 (.agg #[.slice A74 ((xs.getD i op0).attrs.length) c75,i6 ((xs.getD i op0).count)]))] [13] [la 123 (ad8.add ((i:Int).toNat*1)) (.iface 131 (.agg #[.slice A74 ((xs.getD i op0).attrs.length) c75,i6 ((xs.getD i op0).count)])) wl] ⟨loads1 rfl (elem_cell c10 0 _ rfl),trivial⟩ ?_
   refine nl (rg (xr0 2 [(15,aL A3 zs3 c3),(16,.iface 131 (.agg #[.slice A74 ((xs.getD i op0).attrs.length) c75,i6 ((xs.getD i op0).count)]))] [3,5] ?_))
   have hatl:=hszi.2.2.1
   refine XL_inv 145 #[.agg #[.slice A74 ((xs.getD i op0).attrs.length) c75,i6 ((xs.getD i op0).count)]] rfl rfl (by kernel_rfl) (by kernel_rfl) (retOp_any _ _ (xs.getD i op0).attrs _ _ C78 (by omega)) ?_
   rintro e w81 ⟨A79,c80,rfl,l83,r84,b82⟩; refine⟨_,rfl,?_⟩
   refine xw 1 [] [(18,.slice (some ⟨w81.heap.size,0,none⟩) 1 1)] [16,17] (w81.alloc (.cells #[i6 3,s0,i6 0,i6 0,s0,i6 ((xs.getD i op0).count),aL A79 (xs.getD i op0).attrs c80] 70)) [] trivial ?_
   obtain⟨w85,w89,b86,k87,z88⟩:=new_world w81 #[i6 3,s0,i6 0,i6 0,s0,i6 ((xs.getD i op0).count),aL A79 (xs.getD i op0).attrs c80] 70
   rw[w89]
   obtain⟨okp90,M91,hok92⟩:=Kd.M_rowApart r84 hle3 (Kd.R_below hr3 b82) (by decide)
   rw[←w89]
   refine XL_append kOp rfl rfl rfl w.heap.size 70 (.agg #[i6 0,s0,i6 0,i6 0,s0,i6 0,.slice none 0 0]) 88 Tryz.underlying32 info70 rfl (by decide) (by omega) zs3 (⟨3,ByteArray.empty,0,0,ByteArray.empty,(xs.getD i op0).count,(xs.getD i op0).attrs⟩:OpA) [i6 3,s0,i6 0,i6 0,s0,i6 ((xs.getD i op0).count),aL A79 (xs.getD i op0).attrs c80] okp90 (by kernel_rfl) (kOp_M (x:=(⟨3,ByteArray.empty,0,0,ByteArray.empty,(xs.getD i op0).count,(xs.getD i op0).attrs⟩:OpA)) M91) hok92 (Kd.R_below hr3 b82) ((bt HB b82)).size (by first|omega|(simp; omega)) ?_
   intro A93 c94 w95 r96 c97 g98 l99 a100
   have e102:(zs3++[(⟨3,ByteArray.empty,0,0,ByteArray.empty,(xs.getD i op0).count,(xs.getD i op0).attrs⟩:OpA)])=(xs.take (i+1)):=by rw[he3,show (⟨3,ByteArray.empty,0,0,ByteArray.empty,(xs.getD i op0).count,(xs.getD i op0).attrs⟩:OpA)=(xs.getD i op0)from(B.ok_ret hpe13 hk).1.symm]; exact(take_snocD op0 xs i (by omega)).symm
   rw[e102]at r96 ⊢
   refine xe0 1 [(3,aL A93 (xs.take (i+1)) c94),(9,aL A (xs.map pOf) c),(10,i6 ((xs.map pOf).length:Int)),(11,nv i)] ?_
   refine nl (rg (xr1 2 [(20,.eq (i6 ((i:Int)+1)))] [(11,i6 ((i:Int)+1))] [] (w6 ((i:Int)+1)) ?_))
   refine nl ?_
   have B103:Below w.heap.size w w95:=(bgo (bt HB b82) g98 l99 (Nat.le_refl _))
   refine⟨(i+1,A93,c94,(xs.take (i+1))),by kernel_rfl,?_,?_⟩
   ·exact⟨by omega,rfl,r96,(B103).size,B103⟩
   (try dsimp only); omega
  rw[pOf_del hk]at K12
  have e106:=kPiece_del K12
  obtain rfl:=(List.cons.inj e106).1
  refine xr 2 [(14,.load (.iface 126 (.agg #[i6 ((xs.getD i op0).count)])))] [(5,.iface 126 (.agg #[i6 ((xs.getD i op0).count)]))] [13] [la 123 (ad8.add ((i:Int).toNat*1)) (.iface 126 (.agg #[i6 ((xs.getD i op0).count)])) wl] ⟨loads1 rfl (elem_cell c10 0 _ rfl),trivial⟩ ?_
  refine nl (rg (xr0 2 [(15,aL A3 zs3 c3),(16,.iface 126 (.agg #[i6 ((xs.getD i op0).count)]))] [3,5] ?_))
  refine XL_inv 142 #[.agg #[i6 ((xs.getD i op0).count)]] rfl rfl (by kernel_rfl) (by kernel_rfl) (delOp_any _ _) ?_
  rintro e w109 ⟨rfl,b110⟩; refine⟨_,rfl,?_⟩
  refine xw 1 [] [(18,.slice (some ⟨w109.heap.size,0,none⟩) 1 1)] [16,17] (w109.alloc (.cells #[i6 4,s0,i6 0,i6 0,s0,i6 ((xs.getD i op0).count),.slice none 0 0] 70)) [] trivial ?_
  obtain⟨w111,w115,b112,k113,z114⟩:=new_world w109 #[i6 4,s0,i6 0,i6 0,s0,i6 ((xs.getD i op0).count),.slice none 0 0] 70
  rw[w115]
  rw[←w115]
  refine XL_append kOp rfl rfl rfl w.heap.size 70 (.agg #[i6 0,s0,i6 0,i6 0,s0,i6 0,.slice none 0 0]) 88 Tryz.underlying32 info70 rfl (by decide) (by omega) zs3 (⟨4,ByteArray.empty,0,0,ByteArray.empty,(xs.getD i op0).count,[]⟩:OpA) [i6 4,s0,i6 0,i6 0,s0,i6 ((xs.getD i op0).count),.slice none 0 0] (fun _=>False) (by kernel_rfl) (kOp_M0 (⟨4,ByteArray.empty,0,0,ByteArray.empty,(xs.getD i op0).count,[]⟩:OpA) rfl) (fun _ h=>h.elim) (Kd.R_below hr3 b110) ((bt HB b110)).size (by first|omega|(simp; omega)) ?_
  intro A116 c117 w118 r119 c120 g121 l122 a123
  have e124:(zs3++[(⟨4,ByteArray.empty,0,0,ByteArray.empty,(xs.getD i op0).count,[]⟩:OpA)])=(xs.take (i+1)):=by rw[he3,show (⟨4,ByteArray.empty,0,0,ByteArray.empty,(xs.getD i op0).count,[]⟩:OpA)=(xs.getD i op0)from(B.ok_del hpe13 hk).symm]; exact(take_snocD op0 xs i (by omega)).symm
  rw[e124]at r119 ⊢
  refine xe0 1 [(3,aL A116 (xs.take (i+1)) c117),(9,aL A (xs.map pOf) c),(10,i6 ((xs.map pOf).length:Int)),(11,nv i)] ?_
  refine nl (rg (xr1 2 [(20,.eq (i6 ((i:Int)+1)))] [(11,i6 ((i:Int)+1))] [] (w6 ((i:Int)+1)) ?_))
  refine nl ?_
  have B125:Below w.heap.size w w118:=(bgo (bt HB b110) g121 l122 (Nat.le_refl _))
  refine⟨(i+1,A116,c117,(xs.take (i+1))),by kernel_rfl,?_,?_⟩
  ·exact⟨by omega,rfl,r119,(B125).size,B125⟩
  (try dsimp only); omega
 refine xr1 1 [(12,.eq bF)] [(12,bF)] [] (dF c7) ?_
 refine nl (sq (cf (X_exit (sg (xe0 2 [(2,aL A3 zs3 c3)] ?_)))))
 refine nl (X_ret (rj [aL A3 zs3 c3] hR_ ?_))
 have hxi:xs.take i=xs:=List.take_of_length_le (by omega)
 rw[hxi]at he3
 subst he3
 exact⟨_,_,rfl,(RX.Kd.R_len hr3).2,Kd.R_low hr3 (Nat.le_refl _),HB⟩
end Go.Proofs.YtlnnjfdonilgmaaGreatDoor
