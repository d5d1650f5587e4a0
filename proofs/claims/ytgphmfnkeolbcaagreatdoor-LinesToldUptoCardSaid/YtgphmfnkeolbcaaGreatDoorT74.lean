import Derived.Test.YtgphmfnkeolbcaaGreatDoorT51
import Derived.Test.YtgphmfnkeolbcaaGreatDoorP2
import Derived.Test.YtgphmfnkeolbcaaGreatDoorT5
import Derived.Test.YtgphmfnkeolbcaaGreatDoorGl
import Derived.Test.YtgphmfnkeolbcaaGreatDoorMixP
import Derived.Test.YtgphmfnkeolbcaaGreatDoorP1
import Derived.Test.YtgphmfnkeolbcaaGreatDoorA1
import Derived.Test.YtgphmfnkeolbcaaGreatDoorOp2
import Derived.Test.YtgphmfnkeolbcaaGreatDoorT73
import Derived.Test.YtgphmfnkeolbcaaGreatDoorClp
/- vellumlaw21.sameLine, sameLines; vellummade.Is. Conditions: sizes. -/
set_option linter.unusedVariables false
set_option linter.unusedSimpArgs false
set_option maxRecDepth 100000
namespace Go.Proofs.YtgphmfnkeolbcaaGreatDoor
open Go Go.RowKit Go.Proofs.YtgphmfnkeolbcaaGreatDoorW.PrintWords RX
theorem ent44 :Ent Tryz.prog 44:=ent_of Tryz.func44 (by kernel_rfl) rfl
theorem ent41 :Ent Tryz.prog 41:=ent_of Tryz.func41 (by kernel_rfl) rfl
theorem ent43 :Ent Tryz.prog 43:=ent_of Tryz.func43 (by kernel_rfl) rfl
noncomputable def lnEqP (a b:LineA):Bool:=decide (a.from_=b.from_)&&(decide (a.len=b.len)&&(decide (a.text=b.text)&&decide (a.attrs=b.attrs)))
theorem lnEqP_iff (a b:LineA):lnEqP a b=true↔a=b:=by
 obtain⟨a1,a2,a3,a4⟩:=a
 obtain⟨b1,b2,b3,b4⟩:=b
 simp only[lnEqP,Bool.and_eq_true,decide_eq_true_eq,LineA.mk.injEq]
 exact⟨fun⟨h1,h2,h3,h4⟩=>⟨h1,h2,h4,h3⟩,fun⟨h1,h2,h3,h4⟩=>⟨h1,h2,h4,h3⟩⟩
noncomputable def lnsEqP (xs ys:List LineA):Bool:=@decide (xs=ys) (Classical.propDecidable _)
theorem lnsEqP_iff (xs ys:List LineA):lnsEqP xs ys=true↔xs=ys:=by unfold lnsEqP; exact @decide_eq_true_iff _ (Classical.propDecidable _)
theorem lnsEqP_false (xs ys:List LineA):lnsEqP xs ys=false↔¬xs=ys:=by rw[←lnsEqP_iff]; cases lnsEqP xs ys<;>simp
theorem lns_ext {xs ys:List LineA}(hl:xs.length=ys.length)(h:∀ q,q<xs.length→xs.getD q line0=ys.getD q line0):xs=ys:=
 List.ext_getElem hl fun q h1 h2=>by have:=h q h1; simpa [List.getD_eq_getElem?_getD,List.getElem?_eq_getElem h1,List.getElem?_eq_getElem h2] using this
theorem sameLine_any (a b:LineA)(A B:Option Addr)(c d:Nat)(w:World)(hA:kAttr.C w A a.attrs.length a.attrs)(hB:kAttr.C w B b.attrs.length b.attrs):Rt 44 #[.agg #[i6 a.from_,i6 a.len,.slice A a.attrs.length c,sT a.text],.agg #[i6 b.from_,i6 b.len,.slice B b.attrs.length d,sT b.text]] w (.bool (lnEqP a b)):=by
 refine en Tryz.func44 rfl 31 [(0,.agg #[i6 a.from_,i6 a.len,.slice A a.attrs.length c,sT a.text]),(1,.agg #[i6 b.from_,i6 b.len,.slice B b.attrs.length d,sT b.text])] (fun R_ hR_=>?_)
 refine sg (xwe 1 [] [(1,.agg #[i6 b.from_,i6 b.len,.slice B b.attrs.length d,sT b.text]),(2,pw w.heap.size 0)] (w.alloc (.cells #[i6 a.from_,i6 a.len,.slice A a.attrs.length c,sT a.text] 78)) [] trivial ?_)
 obtain⟨w1,w5,hb2,k3,z4⟩:=new_world w #[i6 a.from_,i6 a.len,.slice A a.attrs.length c,sT a.text] 78
 rw[w5]
 refine xw 1 [] [(3,pw w1.heap.size 0)] [1] (w1.alloc (.cells #[i6 b.from_,i6 b.len,.slice B b.attrs.length d,sT b.text] 78)) [] trivial ?_
 obtain⟨w_6,w10,b7,k8,z9⟩:=new_world w1 #[i6 b.from_,i6 b.len,.slice B b.attrs.length d,sT b.text] 78
 rw[w10]
 refine xr0 1 [] [] ?_
 refine nl (sg (xr 4 [(6,.load (i6 a.from_)),(8,.load (i6 b.from_))] [(6,i6 a.from_),(8,i6 b.from_)] [] [_,_] ⟨lc 3 (Blk.below k3 b7) 0,lc 3 k8 0,trivial⟩ ?_))
 by_cases c11:a.from_=b.from_
 ·refine xr 6 [(9,.eq bT),(12,.load (i6 a.len)),(14,.load (i6 b.len))] [(10,bT),(12,i6 a.len),(14,i6 b.len)] [6,8] [_,_,_] ⟨bE c11,lc 3 (Blk.below k3 b7) 1,lc 3 k8 1,trivial⟩ ?_
  by_cases c12:a.len=b.len
  ·refine xr 7 [(15,.eq bT),(19,.load (sT a.text)),(21,.load (sT b.text))] [(17,bT),(19,sT a.text),(21,sT b.text)] [10,12,14] [_,_,_] ⟨bE c12,lc 9 (Blk.below k3 b7) 3,lc 9 k8 3,trivial⟩ ?_
   by_cases c13:a.text=b.text
   ·refine xe 7 [(22,.eq bT),(26,.load (aL A a.attrs c)),(28,.load (aL B b.attrs d))] [(24,bT),(26,aL A a.attrs c),(28,aL B b.attrs d)] [Value.bool (a.text.toList==b.text.toList)=bT,_,_] ⟨congrArg Value.bool (strEqT (c13)),lc 49 (Blk.below k3 b7) 2,lc 49 k8 2,trivial⟩ ?_
    refine xc 66 ent66 [.slice A a.attrs.length c,aL B b.attrs d] (sattrs_any _ _ _ _ a.attrs b.attrs _ (Kd.C_below hA (bt hb2 b7)) (Kd.C_below hB (bt hb2 b7))) ?_
    rintro e w14 ⟨rfl,b15⟩; refine⟨_,rfl,?_⟩
    refine xe0 2 [(4,.bool (decide (a.attrs=b.attrs)))] ?_
    refine nl (X_ret (rj [.bool (decide (a.attrs=b.attrs))] hR_ ?_))
    rw[show lnEqP a b=decide (a.attrs=b.attrs)from by unfold lnEqP; simp_all]
    exact⟨rfl,(bt (bt hb2 b7) b15)⟩
   refine xe 10 [(22,.eq bF)] [(4,bF)] [Value.bool (a.text.toList==b.text.toList)=bF] ⟨congrArg Value.bool (strEqF (c13)),trivial⟩ ?_
   refine nl (X_ret (rj [bF] hR_ ?_))
   rw[show lnEqP a b=false from by unfold lnEqP; simp_all]
   exact⟨rfl,(bt hb2 b7)⟩
  refine xe1 17 [(15,.eq bF)] [(4,bF)] (bN c12) ?_
  refine nl (X_ret (rj [bF] hR_ ?_))
  rw[show lnEqP a b=false from by unfold lnEqP; simp_all]
  exact⟨rfl,(bt hb2 b7)⟩
 refine xe1 23 [(9,.eq bF)] [(4,bF)] (bN c11) ?_
 refine nl (X_ret (rj [bF] hR_ ?_))
 rw[show lnEqP a b=false from by unfold lnEqP; simp_all]
 exact⟨rfl,(bt hb2 b7)⟩
theorem sameLines_any (A B:Option Addr)(c d:Nat)(xs ys:List LineA)(w:World)(hx:kLine.C w A xs.length xs)(hy:kLine.C w B ys.length ys):Rt 41 #[.slice A xs.length c,.slice B ys.length d] w (.bool (lnsEqP xs ys)):=by
 have hpl:xs.length≤9223372036854775807:=hx.2.1
 refine en Tryz.func41 rfl 29 [(0,aL A xs c),(1,aL B ys d)] (fun R_ hR_=>?_)
 refine sg (xe0 1 [(0,aL A xs c),(1,aL B ys d)] ?_)
 refine nl (sq (sg (xr0 4 [(8,i6 (xs.length:Int)),(10,i6 (ys.length:Int))] [] ?_)))
 by_cases c1:(xs.length:Int)=(ys.length:Int)
 ·refine xr1 1 [(11,.eq bF)] [(11,bF)] [8,10] (nF c1) ?_
  refine nl (cf (sk (sq (sg (xr0 3 [(13,i6 (xs.length:Int)),(14,i6 0)] [11] ?_)))))
  refine nl (bk (X_loop (ι:=Nat) (fun i=>[(0,aL A xs c),(1,aL B ys d),(13,i6 (xs.length:Int)),(14,i6 (i:Int))]) (fun i wl=>i≤xs.length∧xs.length=ys.length∧(∀ q,q<i→xs.getD q line0=ys.getD q line0)∧Below w.heap.size w wl) (fun i=>xs.length-i) 0 ⟨by omega,by omega,fun q hq=>by omega,(Below.refl _ _)⟩ (by kernel_rfl) ?_))
  rintro i wl ⟨hi,hlen,hq0,HB⟩
  refine sq (X_region ?_)
  by_cases c2:(i:Int)<(xs.length:Int)
  ·refine xr1 1 [(15,.eq bT)] [(15,bT)] [] (dT c2) ?_
   refine nl (sq (ct (sk (sq (bk (sg (xr0 2 [(5,nv i)] [15] ?_)))))))
   refine nl (sq (X_any [8] 10 (tf 0 10) (by kernel_rfl) (by kernel_rfl) (by kernel_rfl) (fun wd3 hb4 h5=>?_)))
   refine XA_runC (fuel':=8) [0,1] [] [.slice A xs.length c,i6 (i:Int)] (tf 2 8) [(17,aL A xs c),(18,nv i)] [] [] trivial ?_
   obtain⟨ad6,B9,c10,a7,c8,l11,C12⟩:=RX.Kd.atLine (Kd.C_below hx (bt HB hb4)) (i:=(i:Int)) (by omega) (by omega)
   replace c8:CellsAt wd3 (ad6.add ((i:Int).toNat*4)) [i6 ((xs.getD i line0).from_),i6 ((xs.getD i line0).len),.slice B9 ((xs.getD i line0).attrs.length) c10,sT ((xs.getD i line0).text)]:=c8
   replace l11:(xs.getD i line0).attrs.length≤c10:=l11
   replace C12:kAttr.C wd3 B9 ((xs.getD i line0).attrs.length) (xs.getD i line0).attrs:=C12
   refine XA_runC (fuel':=4) [2,3,4,5] [(19,.idx ad6),(20,.load (.agg #[i6 ((xs.getD i line0).from_),i6 ((xs.getD i line0).len),.slice B9 ((xs.getD i line0).attrs.length) c10,sT ((xs.getD i line0).text)]))] [.pointer (some (ad6.add ((i:Int).toNat*4))),.agg #[i6 ((xs.getD i line0).from_),i6 ((xs.getD i line0).len),.slice B9 ((xs.getD i line0).attrs.length) c10,sT ((xs.getD i line0).text)],.slice B ys.length d,i6 (i:Int)] (tf 6 4) [(20,.agg #[i6 ((xs.getD i line0).from_),i6 ((xs.getD i line0).len),.slice B9 ((xs.getD i line0).attrs.length) c10,sT ((xs.getD i line0).text)]),(21,aL B ys d),(22,nv i)] [5,17,18] [A=some ad6,(0:Int)≤(i:Int),(i:Int)<(xs.length:Int),la 78 (ad6.add ((i:Int).toNat*4)) (.agg #[i6 ((xs.getD i line0).from_),i6 ((xs.getD i line0).len),.slice B9 ((xs.getD i line0).attrs.length) c10,sT ((xs.getD i line0).text)]) wd3] ⟨a7,(by omega),(by omega),loadsE rfl rfl c8 0 ⟨by kernel_rfl,by kernel_rfl⟩,trivial⟩ ?_
   obtain⟨ad13,B16,c17,a14,c15,l18,C19⟩:=RX.Kd.atLine (Kd.C_below hy (bt HB hb4)) (i:=(i:Int)) (by omega) (by omega)
   replace c15:CellsAt wd3 (ad13.add ((i:Int).toNat*4)) [i6 ((ys.getD i line0).from_),i6 ((ys.getD i line0).len),.slice B16 ((ys.getD i line0).attrs.length) c17,sT ((ys.getD i line0).text)]:=c15
   replace l18:(ys.getD i line0).attrs.length≤c17:=l18
   replace C19:kAttr.C wd3 B16 ((ys.getD i line0).attrs.length) (ys.getD i line0).attrs:=C19
   refine XA_runC (fuel':=2) [6,7] [(23,.idx ad13),(24,.load (.agg #[i6 ((ys.getD i line0).from_),i6 ((ys.getD i line0).len),.slice B16 ((ys.getD i line0).attrs.length) c17,sT ((ys.getD i line0).text)]))] [.pointer (some (ad13.add ((i:Int).toNat*4))),.agg #[i6 ((ys.getD i line0).from_),i6 ((ys.getD i line0).len),.slice B16 ((ys.getD i line0).attrs.length) c17,sT ((ys.getD i line0).text)]] (tf 8 2) [(24,.agg #[i6 ((ys.getD i line0).from_),i6 ((ys.getD i line0).len),.slice B16 ((ys.getD i line0).attrs.length) c17,sT ((ys.getD i line0).text)])] [21,22] [B=some ad13,(0:Int)≤(i:Int),(i:Int)<(ys.length:Int),la 78 (ad13.add ((i:Int).toNat*4)) (.agg #[i6 ((ys.getD i line0).from_),i6 ((ys.getD i line0).len),.slice B16 ((ys.getD i line0).attrs.length) c17,sT ((ys.getD i line0).text)]) wd3] ⟨a14,(by omega),(by omega),loadsE rfl rfl c15 0 ⟨by kernel_rfl,by kernel_rfl⟩,trivial⟩ ?_
   refine XA_act (fuel':=1) 8 (tf 9 1) _ rfl (by kernel_rfl) rfl (by kernel_rfl) rfl ?_
   refine xc 44 ent44 [.agg #[i6 ((xs.getD i line0).from_),i6 ((xs.getD i line0).len),.slice B9 ((xs.getD i line0).attrs.length) c10,sT ((xs.getD i line0).text)],.agg #[i6 ((ys.getD i line0).from_),i6 ((ys.getD i line0).len),.slice B16 ((ys.getD i line0).attrs.length) c17,sT ((ys.getD i line0).text)]] (sameLine_any (xs.getD i line0) (ys.getD i line0) _ _ _ _ _ C12 C19) ?_
   rintro e w20 ⟨rfl,b21⟩; refine⟨_,rfl,?_⟩
   refine nl (XA_pure (fuel':=0) [9] [] [.bool (lnEqP (xs.getD i line0) (ys.getD i line0))] (tf 10 0) [(0,aL A xs c),(1,aL B ys d),(6,.bool (lnEqP (xs.getD i line0) (ys.getD i line0))),(13,i6 (xs.length:Int)),(14,i6 (i:Int))] (fun w_=>[]) (fun w_=>trivial) ?_)
   refine XA_done (by kernel_rfl) ?_
   refine sg (xr0 1 [(26,.bool (lnEqP (xs.getD i line0) (ys.getD i line0)))] [6] ?_)
   by_cases c22:lnEqP (xs.getD i line0) (ys.getD i line0)=true
   ·rw[show (lnEqP (xs.getD i line0) (ys.getD i line0):Bool)=true from by simpa using c22]
    refine xr0 1 [(27,bF)] [26] ?_
    refine nl (cf (sk (rg (xr1 2 [(28,.eq (i6 ((i:Int)+1)))] [(14,i6 ((i:Int)+1))] [27] (w6 ((i:Int)+1)) ?_))))
    refine nl ?_
    refine⟨(i+1),by kernel_rfl,?_,?_⟩
    ·exact⟨by omega,by omega,fun q hq=>by by_cases e_:q=i; (· subst e_; exact(lnEqP_iff _ _).1 c22); (· exact hq0 q (by omega)),(bt (bt HB hb4) b21)⟩
    (try dsimp only); omega
   rw[show (lnEqP (xs.getD i line0) (ys.getD i line0):Bool)=false from by simpa using c22]
   refine xr0 1 [(27,bT)] [26] ?_
   refine nl (ct (sg (xe0 1 [(4,bF)] ?_)))
   refine nl (X_ret (rj [bF] hR_ ?_))
   rw[(lnsEqP_false xs ys).2 (fun e_=>c22 ((lnEqP_iff _ _).2 (by rw[e_])))]
   exact⟨rfl,(bt (bt HB hb4) b21)⟩
  refine xr1 1 [(15,.eq bF)] [(15,bF)] [] (dF c2) ?_
  refine nl (sq (cf (X_exit (sg (xe0 1 [(4,bT)] ?_)))))
  refine nl (X_ret (rj [bT] hR_ ?_))
  rw[(lnsEqP_iff xs ys).2 (lns_ext hlen (fun q hq=>hq0 q (by omega)))]
  exact⟨rfl,HB⟩
 refine xr1 1 [(11,.eq bT)] [(11,bT)] [8,10] (nT c1) ?_
 refine nl (ct (sg (xe0 1 [(4,bF)] ?_)))
 refine nl (X_ret (rj [bF] hR_ ?_))
 rw[(lnsEqP_false xs ys).2 (fun e_=>by subst e_; omega)]
 exact⟨rfl,(Below.refl _ _)⟩
theorem mis_any (d:Nat)(xs ys:List OpA)(Bl:Option Addr)(c:Nat)(w:World)(hd:DeltaC w d xs)(hb:badE xs=0)(hn:xs.length≤1100000)(hz:∀ i,i<xs.length→opSz (xs.getD i op0))(hy:kOp.C w Bl ys.length ys):
  Rt 43 #[pw d 0,aL Bl ys c] w (.bool (opsEqP xs ys)):=by
 refine en Tryz.func43 rfl 13 [(0,pw d 0),(1,aL Bl ys c)] (fun R_ hR_=>?_)
 refine sg (xe0 1 [(0,pw d 0),(1,aL Bl ys c)] ?_)
 refine nl (sg (xr0 4 [(7,bT),(8,pw d 0)] [0] ?_))
 refine xc 56 ent56 [pw d 0] (dops_any _ xs _ hd hb hn hz) ?_
 rintro e w3 ⟨A1,c2,rfl,l4,r5,b6⟩; refine⟨_,rfl,?_⟩
 refine xr0 1 [(9,aL A1 xs c2),(10,aL Bl ys c)] [1,8] ?_
 refine xc 111 ent111 [.slice A1 xs.length c2,aL Bl ys c] (sameOps_any _ _ _ _ xs ys _ (Kd.R_C r5) (Kd.C_below hy b6)) ?_
 rintro e w7 ⟨rfl,b8⟩; refine⟨_,rfl,?_⟩
 refine xe0 2 [(4,.bool (opsEqP xs ys))] ?_
 refine nl (X_ret (rj [.bool (opsEqP xs ys)] hR_ ?_))
 exact⟨rfl,(bt b6 b8)⟩
end Go.Proofs.YtgphmfnkeolbcaaGreatDoor

set_option linter.unusedVariables false
set_option linter.unusedSimpArgs false
namespace Go.Proofs.YtgphmfnkeolbcaaGreatDoor.RX
open Go Go.RowKit Go.Proofs.YtgphmfnkeolbcaaGreatDoorW.PrintWords
def SeqN {α:Type}(D:Nat→Prop)(P:Program)(g:Nat)(lb:Array Value)(encs:α→Array Value)(S Sp:List α→Prop)(Px:α→World→Prop)(N:Nat)(w:World):Prop:=
  ∀ (lp:Nat) (J:List α→(Nat→Prop)→World→Prop) (Jx:List α→World→Prop) (M0:Nat→Prop) (W:World),Below w.heap.size w W→(∀ M,AbidesFrom W.heap.size (fun s W'=>J s M W'))→AbidesFrom W.heap.size Jx→
    (∀ pre M x W1,J pre M W1→Px x W1→pre.length<N→YieldAt Fence.wide 1 P lp (encs x) W1 fun e W'=>
      (e=.returned (.bool true)∧∃ M',J (pre++[x]) M' W'∧KpM D (fun _=>True) W1 W')∨(e=.returned (.bool false)∧Jx (pre++[x]) W'))→
    J [] M0 W→
    CallsIn Fence.wide 2 P g (#[.func (.yield lp) #[] #[]]++lb) W fun e W'=>(∃ v,e=.returned v)∧((∃ xs M,S xs∧J xs M W')∨(∃ pre,Sp pre∧Jx pre W'))
def headN {α ι:Type}(D:Nat→Prop)(B:Nat)(I:List α→(Nat→Prop)→World→Prop)(Ax:α→ι→World→Prop)(lx:α→ι→Slots)(pre:List α)(M:Nat→Prop)(x:α)(W:World):QS
  | .normal,l',W'=>∃ i,keep l' ((lx x i).map (·.1))=lx x i∧KeepsFrom B W W'∧KpM D (fun _=>True) W W'∧I pre M W'∧Ax x i W'
  | _,_,_=>False
def bodyN {α:Type}(D:Nat→Prop)(B:Nat)(I:List α→(Nat→Prop)→World→Prop)(Ix:Code→List α→World→Prop)(xs:List α)(M:Nat→Prop)(W:World):QS
  | .normal,_,W'=>KeepsFrom B W W'∧∃ M',KpM D (fun _=>True) W W'∧I xs M' W'
  | .ret,_,W'=>KeepsFrom B W W'∧Ix .ret xs W'
  | .exit id,_,W'=>KeepsFrom B W W'∧Ix (.exit id) xs W'
  | _,_,_=>False
theorem X_rangeN {α ι:Type}{P:Program}{N:Nat}{qs:QS}{l:Slots}{w:World}{g:Operand}{ps:Array Tmp}{asg body:Code}{gf:Nat}{lb:Array Value}(hg:ev l g=some (.func (.func gf) #[] lb))(en:Ent P gf)
    {encs:α→Array Value} {S Sp:List α→Prop} {Px:α→World→Prop} {Q:Nat} {w0:World} {Dt:Nat→Prop} (hseq:SeqN Dt P gf lb encs S Sp Px Q w0) (hb0:Below w0.heap.size w0 w) (hDt:∀ k,Dt k→k<w.heap.size)
    (hps:∀ x,(encs x).size=ps.size) (hpn:(ps.toList.all fun p=>Nat.blt p N)=true)
    (I:List α→(Nat→Prop)→World→Prop) (Ix:Code→List α→World→Prop) (hI:∀ M,OwnFrom w.heap.size (fun s W=>I s M W)) (hIx:∀ c,OwnFrom w.heap.size (Ix c)) (hIM:True) (M0:Nat→Prop) (h0:I [] M0 w)
    (Ax:α→ι→World→Prop) (hAx:∀ i,OwnFrom w.heap.size (fun x W=>Ax x i W)) (lx:α→ι→Slots)
    (hassign:∀ (lp:Nat) (pre:List α) (M:Nat→Prop) (x:α) (W:World),w.heap.size≤lp→w.heap.size≤W.heap.size→I pre M W→Px x W→pre.length<Q→XI (some lp) P N asg (headN Dt w.heap.size I Ax lx pre M x W) (bindS (ps.toList.zip (encs x).toList) (noD l)) W)
    (hbody:∀ (lp:Nat) (pre:List α) (M:Nat→Prop) (x:α) (i:ι) (W:World),w.heap.size≤lp→w.heap.size≤W.heap.size→I pre M W→Ax x i W→pre.length<Q→XI (some lp) P N body (bodyN Dt w.heap.size I Ix (pre++[x]) M W) (lx x i) W)
    (hdone:∀ (D:Nat) (xs:List α) (M:Nat→Prop) (W:World),w.heap.size≤D→S xs→I xs M W→W.heap[D]?=some (.deferred (some []))→qs .normal (addD D l) W)
    (hstop:∀ (D:Nat) (c:Code) (pre:List α) (W:World),w.heap.size≤D→Sp pre→Ix c pre W→W.heap[D]?=some (.deferred (some []))→X P N c qs (addD D l) W):
    X P N (.rangeFunc g ps asg body) qs l w:=by
  intro a ha
  refine(wpIn_wide (n:=3)).1 (wpIn_rangeFunc ?_)
  intro fn hfn
  rw[show Fence.wide.round=none from rfl]
  obtain⟨rec,hrec⟩:∃ rec:LoopState→Option Code→Loop,rec=fun st pe=>{ state:=st,pending:=pe,fn,tmps:=a.tmps,params:=ps,assign:=asg,body,defers:=w.heap.size }:=⟨_,rfl⟩
  obtain⟨W1,hW1⟩:∃ W1,(w.alloc (.deferred (some []))).alloc (.loop (rec .ready none))=W1:=⟨_,rfl⟩
  have hL1:W1.heap[w.heap.size+1]?=some (.loop (rec .ready none)):=by
    rw[←hW1]; have:=World.alloc_heap_new (w.alloc (.deferred (some []))) (.loop (rec .ready none)); rwa [World.size_alloc]at this
  have hK1:W1.heap[w.heap.size]?=some (.deferred (some [])):=by
    rw[←hW1]; exact(Below.heap_alloc _ _ _ (by simp)).trans (World.alloc_heap_new w _)
  have hI1:I [] M0 W1:=by rw[←hW1]; exact(hI M0).alloc _ ((hI M0).alloc _ h0)
  have hb1:Below w0.heap.size w0 W1:=by
    rw[←hW1]; exact hb0.trans ((((Below.refl _ w).alloc (Nat.le_refl _) _).alloc (by simp) _).mono hb0.size)
  refine⟨w.heap.size+1,[{ target:=.collected w.heap.size,args:=#[] }],W1,{ target:=.fn (.func gf) lb,args:=#[.func (.yield (w.heap.size+1)) #[] #[]] },W1,gf,
    #[.func (.yield (w.heap.size+1)) #[] #[]]++lb,W1,?_,?_,?_,?_,fun _=>by omega,?_⟩
  · rw[←hW1,hrec]; exact run_enterLoop_outer _ _ _ _ _
  · simp only[resolve,ev_ok ha hg]
    simp[go_sem]
  · intro f' hf'; trivial
  · have:=en (#[.func (.yield (w.heap.size+1)) #[] #[]]++lb) W1
    simp[invoke,go_sem,this]
  · have hnw:∀ {A B:World} {row:Option Nat},(∀ r,row=some r→W1.heap.size≤r∧∃ o:Obj,A.heap[r]?=some o∧o.isWalk=true)→(∀ r,row=some r→w.heap.size≤r∧∃ o:Obj,A.heap[r]?=some o∧o.isCells=false):=
      fun hr r e=>by obtain⟨hB,o,ho,hw⟩:=hr r e; exact⟨by rw[←hW1]at hB; simp at hB; omega,o,ho,Obj.not_cells_of_walk hw⟩
    refine(hseq (w.heap.size+1)
      (fun pre M W=>I pre M W∧W.heap[w.heap.size+1]?=some (.loop (rec .ready none))∧W.heap[w.heap.size]?=some (.deferred (some [])))
      (fun pre W=>∃ c,Ix c pre W∧W.heap[w.heap.size+1]?=some (.loop (rec .done (some c)))∧W.heap[w.heap.size]?=some (.deferred (some [])))
      M0 W1 hb1
      (fun M s A B row hs hg' hr=>⟨hI M s A B row hs.1 hg' (hnw (B:=B) hr),(grownBy_keeps hg' (fun r e=>(hr r e).2) hs.2.1 rfl).trans hs.2.1,(grownBy_keeps hg' (fun r e=>(hr r e).2) hs.2.2 rfl).trans hs.2.2⟩)
      (fun s A B row hs hg' hr=>by
        obtain⟨c,hc,hl,hk⟩:=hs
        exact⟨c,hIx c s A B row hc hg' (hnw (B:=B) hr),(grownBy_keeps hg' (fun r e=>(hr r e).2) hl rfl).trans hl,(grownBy_keeps hg' (fun r e=>(hr r e).2) hk rfl).trans hk⟩)
      ?_ ⟨hI1,hL1,hK1⟩).mono ?_
    · rintro pre M x W ⟨hi,hl,hk⟩ hpx hlen
      have hlt:w.heap.size+1<W.heap.size:=(Array.getElem?_eq_some_iff.1 hl).1
      have hy:=run_yield (P:=P) (args:=encs x) hl (by rw[hrec]; exact hps x)
      rw[hrec]at hy
      have h1:=ha.noD
      have h2:=fr_bind (ps.toList.zip (encs x).toList) _ _ h1 (by
        refine List.all_eq_true.2 fun p hp=>?_
        exact List.all_eq_true.1 hpn _ (List.of_mem_zip hp).1)
      have h4:(ps.zip (encs x)).foldl (fun t (p,v)=>t.setIfInBounds p v) a.tmps=(ps.toList.zip (encs x).toList).foldl (fun t p=>t.setIfInBounds p.1 p.2) a.tmps:=by
        rw[←Array.foldl_toList,Array.toList_zip]
      refine⟨fn,_,asg,body,hy,roundIn_of_wpIn hfn ?_⟩
      rw[h4]
      refine wpIn_mono (hassign (w.heap.size+1) pre M x W (by omega) (by omega) hi hpx hlen _ _ h2) ?_
      rintro e a' W' ⟨l',hl',hq⟩
      cases e with
      | normal=>
        obtain⟨ix,hkx,hkp0,hkq0,hi',hax⟩:=hq
        have hlr:=hkp0.same _ _ (by omega) hl rfl
        have hkr:=hkp0.same _ _ (Nat.le_refl _) hk rfl
        have hlt':w.heap.size+1<W'.heap.size:=(Array.getElem?_eq_some_iff.1 hlr).1
        refine⟨_,run_beginRound hlr (by rw[hrec]),?_⟩
        have hl2:(W'.putObj (w.heap.size+1) (.loop { rec .ready none with state:=.busy })).heap[w.heap.size+1]?=some (.loop { rec .ready none with state:=.busy }):=World.putObj_heap_same hlt'
        have hk2:(W'.putObj (w.heap.size+1) (.loop { rec .ready none with state:=.busy })).heap[w.heap.size]?=some (.deferred (some [])):=(World.putObj_heap_other (by omega)).trans hkr
        have hb0s:=hb0.size
        have hw2:KpM Dt (fun _=>True) W' (W'.putObj (w.heap.size+1) (.loop { rec .ready none with state:=.busy })):=KpM.putObj (fun h_=>by have:=hDt _ h_; omega) hlr rfl rfl
        refine wpIn_mono (hbody (w.heap.size+1) pre M x ix _ (by omega) (Nat.le_trans (by omega) hw2.size) ((hI M).putObj _ hi' (by omega) hlr rfl) ((hAx ix).putObj _ hax (by omega) hlr rfl) hlen _ a' (by rw[←hkx]; exact hl'.keep _)) ?_
        have fin:∀ (jump:Option Code) (W3:World),KeepsFrom w.heap.size (W'.putObj (w.heap.size+1) (.loop { rec .ready none with state:=.busy })) W3→
            (Instr.endRound (w.heap.size+1) jump).run P W3=.ok (.bool jump.isNone) (W3.putObj (w.heap.size+1) (.loop (rec (if jump.isNone then .ready else .done) jump)))∧
            W3.heap[w.heap.size+1]?=some (.loop { rec .ready none with state:=.busy })∧
            (W3.putObj (w.heap.size+1) (.loop (rec (if jump.isNone then .ready else .done) jump))).heap[w.heap.size+1]?=some (.loop (rec (if jump.isNone then .ready else .done) jump))∧
            (W3.putObj (w.heap.size+1) (.loop (rec (if jump.isNone then .ready else .done) jump))).heap[w.heap.size]?=some (.deferred (some [])):=fun jump W3 hk3=>by
          have hl3:=hk3.same _ _ (by omega) hl2 rfl
          have:=run_endRound (P:=P) jump hl3
          rw[hrec]at this ⊢
          exact⟨this,by rw[hrec]at hl3; exact hl3,World.putObj_heap_same (Array.getElem?_eq_some_iff.1 hl3).1,(World.putObj_heap_other (by omega)).trans (hk3.same _ _ (Nat.le_refl _) hk2 rfl)⟩
        rintro e a3 W3 ⟨l3,hl3',hp⟩
        cases e with
        | normal=>
          obtain⟨hk3,M3,hkp3,hi3⟩:=hp
          obtain⟨hr,hl3,hl4,hk4⟩:=fin none W3 hk3
          exact⟨_,_,hr,.inl ⟨rfl,M3,⟨(hI M3).putObj _ hi3 (by omega) hl3 rfl,hl4,hk4⟩,hkq0.trans ((hw2.trans hkp3).trans (KpM.putObj (fun h_=>by have:=hDt _ h_; omega) hl3 rfl rfl))⟩⟩
        | ret=>
          obtain⟨hk3,hi3⟩:=hp
          obtain⟨hr,hl3,hl4,hk4⟩:=fin (some .ret) W3 hk3
          exact⟨_,_,hr,.inr ⟨rfl,.ret,(hIx _).putObj _ hi3 (by omega) hl3 rfl,hl4,hk4⟩⟩
        | exit id=>
          obtain⟨hk3,hi3⟩:=hp
          obtain⟨hr,hl3,hl4,hk4⟩:=fin (some (.exit id)) W3 hk3
          exact⟨_,_,hr,.inr ⟨rfl,.exit id,(hIx _).putObj _ hi3 (by omega) hl3 rfl,hl4,hk4⟩⟩
        | _=>exact hp.elim
      | _=>exact hq.elim
    · rintro e W2 ⟨⟨v,rfl⟩,(⟨xs,M,hS,hi,hl,hk⟩|⟨pre,hSp,c,hi,hl,hk⟩)⟩
      · exact⟨none,_,by have:=run_endLoop (P:=P) hl (by rw[hrec]; simp); rw[hrec]at this; exact this,_,ha.addD _,hdone _ xs M _ (Nat.le_refl _) hS ((hI M).putObj _ hi (by omega) hl rfl) ((World.putObj_heap_other (by omega)).trans hk)⟩
      · exact⟨some c,_,by have:=run_endLoop (P:=P) hl (by rw[hrec]; simp); rw[hrec]at this; exact this,wpIn_wide.2 (hstop _ c pre _ (Nat.le_refl _) hSp ((hIx c).putObj _ hi (by omega) hl rfl) ((World.putObj_heap_other (by omega)).trans hk) _ (ha.addD _))⟩
end Go.Proofs.YtgphmfnkeolbcaaGreatDoor.RX
set_option linter.unusedVariables false
set_option linter.unusedSimpArgs false
set_option maxRecDepth 100000
namespace Go.Proofs.YtgphmfnkeolbcaaGreatDoor
open Go Go.RowKit Go.Proofs.YtgphmfnkeolbcaaGreatDoorW.PrintWords RX
set_option maxHeartbeats 1000000 in
theorem leach_seqN (D okD:Nat→Prop)(b0 g:Nat)(A:Option Addr)(c:Nat)(ls:List LineA)(w1:World)(hx:kLine.R 78 w1 b0 okD (.slice A ls.length c) ls)(hokD:∀ k,okD k→D k)(hD:∀ k,D k→k<w1.heap.size)(hol:ls.length≤1000000000)(hat:∀ l∈ls,l.attrs.length≤100000000)(hk:RX.Blk w1 g 66 #[.slice A ls.length c]):
  SeqN D Tryz.prog 109 #[pw g 0] elLV (fun ys=>LOK ls ys∧ys.length=ls.length) (fun pre=>LOK ls pre) (LPx w1.heap.size) ls.length w1:=by
 intro lp J Jx M0 W hW hJ hJx hY jJ0
 have hJb:∀ s M (X Y:World),Below X.heap.size X Y→J s M X→J s M Y:=fun s M X Y hb hj=>abides_below (hJ M) hb hj
 refine callsIn_wide.2 ?_
 rw[show (#[Value.func (.yield lp) #[] #[]]++#[pw g 0]:Array Value)=#[.func (.yield lp) #[] #[],pw g 0]from rfl]
 refine en Tryz.func109 rfl 22 [(0,.func (.yield lp) #[] #[]),(1,pw g 0)] (fun R_ hR_=>?_)
 refine sg (xe1 3 [(5,.load (aL A ls c))] [(0,.func (.yield lp) #[] #[]),(5,aL A ls c),(6,i6 (ls.length:Int)),(7,i6 0)] (lc 66 (Blk.below hk hW) 0) ?_)
 refine nl (bk (X_loop (ι:=Nat×List ElL×(Nat→Prop)) (fun⟨i,pre,M⟩=>[(0,.func (.yield lp) #[] #[]),(5,aL A ls c),(6,i6 (ls.length:Int)),(7,i6 (i:Int))]) (fun⟨i,pre,M⟩ wl=>i≤ls.length∧pre.length=i∧LOK ls pre∧J pre M wl∧kLine.R 78 wl b0 okD (aL A ls c) ls∧w1.heap.size≤wl.heap.size) (fun⟨i,pre,M⟩=>ls.length-i) (0,[],M0) ⟨by omega,rfl,LOK.nil _,jJ0,(Kd.R_below hx hW),(hW).size⟩ (by kernel_rfl) ?_))
 rintro⟨i,pre,M⟩ wl ⟨hi_,hpn,hpok,hJ1,hr1,hhi1⟩
 have hat_:=fun(h_:i<ls.length)=>hat (ls.getD i line0) (getD_mem line0 h_)
 refine sq (X_region ?_)
 by_cases c1:(i:Int)<(ls.length:Int)
 ·refine xr1 1 [(8,.eq bT)] [(8,bT)] [] (dT c1) ?_
  refine nl (sq (ct (sk (sq (bk (sg (xr0 1 [(9,nv i)] [8] ?_)))))))
  obtain⟨ad2,B5,c6,a3,c4,l7,C8⟩:=RX.Kd.atLine (Kd.R_C hr1) (i:=(i:Int)) (by omega) (by omega)
  replace c4:CellsAt wl (ad2.add ((i:Int).toNat*4)) [i6 ((ls.getD i line0).from_),i6 ((ls.getD i line0).len),.slice B5 ((ls.getD i line0).attrs.length) c6,sT ((ls.getD i line0).text)]:=c4
  replace l7:(ls.getD i line0).attrs.length≤c6:=l7
  replace C8:kAttr.C wl B5 ((ls.getD i line0).attrs.length) (ls.getD i line0).attrs:=C8
  refine xw 3 [(10,.idx ad2),(11,.load (.agg #[i6 ((ls.getD i line0).from_),i6 ((ls.getD i line0).len),.slice B5 ((ls.getD i line0).attrs.length) c6,sT ((ls.getD i line0).text)]))] [(4,pw wl.heap.size 0),(11,.agg #[i6 ((ls.getD i line0).from_),i6 ((ls.getD i line0).len),.slice B5 ((ls.getD i line0).attrs.length) c6,sT ((ls.getD i line0).text)])] [] (wl.alloc (.cells #[i6 0,i6 0,.slice none 0 0,s0] 78)) [A=some ad2,(0:Int)≤(i:Int),(i:Int)<(ls.length:Int),la 78 (ad2.add ((i:Int).toNat*4)) (.agg #[i6 ((ls.getD i line0).from_),i6 ((ls.getD i line0).len),.slice B5 ((ls.getD i line0).attrs.length) c6,sT ((ls.getD i line0).text)]) wl] ⟨a3,(by omega),(by omega),loadsE rfl rfl c4 0 ⟨by kernel_rfl,by kernel_rfl⟩,trivial⟩ ?_
  obtain⟨w9,w13,b10,k11,z12⟩:=new_world wl #[i6 0,i6 0,.slice none 0 0,s0] 78
  rw[w13]
  refine xr0 1 [(3,nv i)] [9] ?_
  refine xst (.agg #[i6 ((ls.getD i line0).from_),i6 ((ls.getD i line0).len),.slice B5 ((ls.getD i line0).attrs.length) c6,sT ((ls.getD i line0).text)]) k11 0 #[i6 ((ls.getD i line0).from_),i6 ((ls.getD i line0).len),.slice B5 ((ls.getD i line0).attrs.length) c6,sT ((ls.getD i line0).text)] (fun w14 g15 k16 z17=>?_)
  refine nl (sq (X_region ?_))
  have hat2_:=hat_ (by omega)
  refine xr1 2 [(13,.load (aL B5 (ls.getD i line0).attrs c6))] [(13,aL B5 (ls.getD i line0).attrs c6)] [11] (lc 49 k16 2) ?_
  refine xc 110 ent110 [aL B5 (ls.getD i line0).attrs c6] (clone_any _ _ ((ls.getD i line0).attrs) _ (Kd.C_below C8 (bg b10 g15 (Nat.le_refl _))) hat2_) ?_
  rintro e w22 ⟨A18,c19,rfl,l20,r21,b23⟩; refine⟨_,rfl,?_⟩
  refine xe0 1 [(0,.func (.yield lp) #[] #[]),(3,nv i),(4,pw wl.heap.size 0),(5,aL A ls c),(6,i6 (ls.length:Int)),(7,nv i),(14,aL A18 (ls.getD i line0).attrs c19),(15,pw wl.heap.size 2)] ?_
  refine xst (aL A18 (ls.getD i line0).attrs c19) (Blk.below k16 b23) 2 #[i6 ((ls.getD i line0).from_),i6 ((ls.getD i line0).len),.slice A18 ((ls.getD i line0).attrs.length) c19,sT ((ls.getD i line0).text)] (fun w24 g25 k26 z27=>?_)
  have r28:=Kd.R_off r21 (Blk.below k16 b23) (by decide) g25
  refine nl (sq (X_regionI ?_))
  refine XLI_pre 3 (by kernel_rfl) (fun _ _ h_=>h_) ?_
  refine xr 3 [(18,.load (.agg #[i6 ((ls.getD i line0).from_),i6 ((ls.getD i line0).len),.slice A18 ((ls.getD i line0).attrs.length) c19,sT ((ls.getD i line0).text)]))] [(16,.func (.yield lp) #[] #[]),(17,nv i),(18,.agg #[i6 ((ls.getD i line0).from_),i6 ((ls.getD i line0).len),.slice A18 ((ls.getD i line0).attrs.length) c19,sT ((ls.getD i line0).text)])] [3,4,14,15] [la 78 (⟨wl.heap.size,0,none⟩) (.agg #[i6 ((ls.getD i line0).from_),i6 ((ls.getD i line0).len),.slice A18 ((ls.getD i line0).attrs.length) c19,sT ((ls.getD i line0).text)]) w24] ⟨loadsB rfl rfl k26 0 ⟨by kernel_rfl,by kernel_rfl⟩,trivial⟩ ?_
  refine nl ?_
  have B30:Below wl.heap.size wl w24:=(bg (bt (bg b10 g15 (Nat.le_refl _)) b23) g25 (Nat.le_refl _))
  have hjw_:=(hJb _ _ _ _ B30 hJ1)
  have hrw_:=Kd.R_below hr1 B30
  have hwl_:wl.heap.size≤w24.heap.size:=(B30).size
  have hpok3_:=hpok.snoc (x:=((i:Int),(ls.getD i line0),A18,c19)) (by omega) (by rw[hpn]) (by rw[hpn])
  refine XLI_yield rfl rfl rfl rfl [i6 (i:Int),.agg #[i6 ((ls.getD i line0).from_),i6 ((ls.getD i line0).len),.slice A18 ((ls.getD i line0).attrs.length) c19,sT ((ls.getD i line0).text)]] (by kernel_rfl) (hY pre M ((i:Int),(ls.getD i line0),A18,c19) _ hjw_ ⟨hat2_,_,Nat.le_trans hhi1 ((bg b10 g15 (Nat.le_refl _))).size,l20,r28⟩ (by omega)) ?_
  rintro e w29 (⟨rfl,M3_,hJ3_,hK3_⟩|⟨rfl,hJ3_⟩)
  ·refine⟨_,rfl,?_⟩
   have hpn3_:(pre++[((i:Int),(ls.getD i line0),A18,c19)]).length=i+1:=by rw[List.length_append,List.length_singleton,hpn]
   have hr3_:=hK3_.rowD hrw_ hokD
   have hhi3_:w1.heap.size≤w29.heap.size:=by have:=hK3_.size; omega
   refine XLI_of (by kernel_rfl) (fun _ _ h_=>h_) ?_
   refine xr0 1 [(20,bF)] [16,17,18,19] ?_
   refine nl (cf (sk (rg (xr1 2 [(21,.eq (i6 ((i:Int)+1)))] [(7,i6 ((i:Int)+1))] [20] (w6 ((i:Int)+1)) ?_))))
   refine nl ?_
   refine⟨(i+1,(pre++[((i:Int),(ls.getD i line0),A18,c19)]),M3_),by kernel_rfl,?_,?_⟩
   ·exact⟨by omega,hpn3_,hpok3_,hJ3_,hr3_,hhi3_⟩
   (try dsimp only); omega
  refine⟨_,rfl,?_⟩
  refine XLI_of (by kernel_rfl) (fun _ _ h_=>h_) ?_
  refine xr0 1 [(20,bT)] [16,17,18,19] ?_
  refine nl (ct (X_ret (rj [] hR_ ?_)))
  exact⟨⟨_,rfl⟩,.inr ⟨_,hpok3_,hJ3_⟩⟩
 refine xr1 1 [(8,.eq bF)] [(8,bF)] [] (dF c1) ?_
 refine nl (sq (cf (X_exit (ek [] (hR_ _ _ ?_)))))
 exact⟨⟨_,rfl⟩,.inl ⟨pre,M,⟨hpok,by omega⟩,hJ1⟩⟩
end Go.Proofs.YtgphmfnkeolbcaaGreatDoor
set_option linter.unusedVariables false
set_option linter.unusedSimpArgs false
set_option maxRecDepth 100000
namespace Go.Proofs.YtgphmfnkeolbcaaGreatDoor.RX
open Go Go.RowKit Go.Proofs.YtgphmfnkeolbcaaGreatDoorW.PrintWords
structure ShapeL (e' e:Nat) (ok:Nat→Prop) (w:World) (A:Option Addr) (n c i:Nat):Prop where
  o:LiesO e' 4 ok w A n c
  r:∀ j,i≤j→j<n→∃ ad a0 a1 B m c2 a3,A=some ad∧CellsAt w (ad.add (j*4)) [a0,a1,.slice B m c2,a3]∧LiesO e 4 ok w B m c2∧m≤100000000
section
variable {e' e : Nat} {ok : Nat → Prop} {w w1 : World} {A : Option Addr} {n c i : Nat}
theorem ShapeL.next (h:ShapeL e' e ok w A n c i):ShapeL e' e ok w A n c (i+1):=⟨h.o,fun j h1 h2=>h.r j (by omega) h2⟩
theorem ShapeL.below (hb:Below w.heap.size w w1)(h:ShapeL e' e ok w A n c i):ShapeL e' e ok w1 A n c i:=⟨h.o.below hb,fun j h1 h2=>by
  obtain⟨ad,a0,a1,B,m,c2,a3,a,b,e,q⟩:=h.r j h1 h2
  exact⟨ad,a0,a1,B,m,c2,a3,a,cells_below b hb,e.below hb,q⟩⟩
theorem ShapeL.cells {ok':Nat→Prop}(h:ShapeL e' e ok w A n c i)(hi:0<n)(hw:SpoilO (· =e) ok' w w1)(hne:e'≠e){ad:Addr}(hA:A=some ad){k:Nat}{vs:List Value}(hc:CellsAt w (ad.add k) vs):CellsAt w1 (ad.add k) vs:=by
  obtain⟨g,cs,e1,_,hb,_⟩:=h.o.at hi
  obtain rfl:ad=⟨g,0,none⟩:=by rw[hA]at e1; injection e1
  have hadd:(⟨g,0,none⟩:Addr).add k=⟨g,k,none⟩:=by unfold Addr.add; split<;>simp_all
  intro q u hu
  have h1:=hc q u hu
  have hadd2:(⟨g,k,none⟩:Addr).add q=⟨g,k+q,none⟩:=by unfold Addr.add; split<;>simp_all
  rw[hadd,hadd2]at h1 ⊢
  have hb1:=hw.other hb hne
  simp only[World.cell?,hb]at h1
  simp only[World.cell?,hb1]
  exact h1
theorem ShapeL.wr {ok':Nat→Prop}(h:ShapeL e' e ok w A n c i)(hw:SpoilO (· =e) ok' w w1)(hne:e'≠e):ShapeL e' e ok w1 A n c i:=⟨h.o.spoil hw,fun j h1 h2=>by
  obtain⟨ad,a0,a1,B,m,c2,a3,a,b,k,q⟩:=h.r j h1 h2
  exact⟨ad,a0,a1,B,m,c2,a3,a,h.cells (by omega) hw hne a b,k.spoil hw,q⟩⟩
theorem ShapeL.put (h:ShapeL e' e ok w A n c (i+1)){g:Nat}{cs:Array Value}{v:Value}(hA:A=some ⟨g,0,none⟩)(hgk:ok g)(hb:RX.Blk w g e' cs)(hg:w.grownBy w1 (some g))(hb1:RX.Blk w1 g e' (setAll cs (i*4+2) [v])):
    WroteO e' ok w w1∧ShapeL e' e ok w1 A n c (i+1):=by
  have hw:WroteO e' ok w w1:=⟨some g,hg,fun k hk=>by
    injection hk with hk
    subst hk
    exact⟨hgk,cs,_,hb,hb1,setAll_size _ _ _⟩⟩
  have hs:SpoilO (· =e') ok w w1:=SpoilO.of_wrote hw rfl
  refine⟨hw,h.o.spoil hs,fun j h1 h2=>?_⟩
  obtain⟨ad,a0,a1,B,m,c2,a3,a,b,k,hq⟩:=h.r j h1 h2
  obtain rfl:ad=⟨g,0,none⟩:=by rw[hA]at a; injection a with a; exact a.symm
  refine⟨_,a0,a1,B,m,c2,a3,hA,cellsAt_blk hb1 fun q u hu=>?_,k.spoil hs,hq⟩
  rw[setAll_out _ _ _ _ (by simp only[List.length_singleton]; omega)]
  exact blk_cellsAt b hb q u hu
end
theorem XL_putL {P:Program}{N:Nat}{ops:Array Oper}{qs:QS}{rest:List Oper}{o:Oper}{l:Slots}{w:World}{t:TypeId}{pp x:Operand}(ho:o.op=.store t pp x)(hdn:o.dst=none)(hg:gd ops l o=some true)
    {e' e:Nat} {ok:Nat→Prop} {A:Option Addr} {n c i:Nat} {ad:Addr} {v:Value} (h:ShapeL e' e ok w A n c (i+1)) (hi0:i<n) (hA:A=some ad) (hp:evs l [pp,x]=some [.pointer (some ((ad.add (i*4)).add 2)),v])
    (hv:v.cells.toList=[v]∧sizeP P t=some 1) (h1:v.oneCell'=true)
    (hn:∀ w1,WroteO e' ok w w1→ShapeL e' e ok w1 A n c (i+1)→XL P N ops rest qs l w1):XL P N ops (o::rest) qs l w:=by
  obtain⟨g,cs,hA2,h2,hb,hs⟩:=h.o.at (by omega)
  obtain rfl:ad=⟨g,0,none⟩:=by rw[hA]at hA2; injection hA2
  have hadd:((⟨g,0,none⟩:Addr).add (i*4)).add 2=⟨g,i*4+2,none⟩:=by
    have e1:(⟨g,0,none⟩:Addr).add (i*4)=⟨g,i*4,none⟩:=by unfold Addr.add; split<;>simp_all
    rw[e1]
    unfold Addr.add; split<;>simp_all
  rw[hadd]at hp
  refine XL_store ho hdn hg hp hb _ [v] _ ⟨hv.1,rfl,hv.2⟩ ⟨rfl,by simp only[List.all_cons,List.all_nil,Bool.and_true]; exact h1⟩ (by simp only[List.length_singleton]; omega) fun w1 h6 h7 _=>?_
  obtain⟨h8,h9⟩:=h.put (v:=v) hA h2 hb h6 h7
  exact hn w1 h8 h9
theorem shapeL_lines {e' base:Nat}{w:World}{A:Option Addr}{n c:Nat}{xs:List LineA}{ok:Nat→Prop}(h:kLine.R e' w base (OkFrom base) (.slice A n c) xs)(hm:∀ j,j<xs.length→(xs.getD j line0).attrs.length≤100000000)(hok:∀ g,base≤g→g<w.heap.size→ok g):ShapeL e' 57 ok w A n c 0:=by
  have hb:=Kd.R_bound h
  refine⟨LiesO.of_R (d:=kLine) hb fun k h1 _ h3=>hok k h1 h3,fun j _ hj=>?_⟩
  obtain⟨hn,hc⟩:=Kd.R_len h
  obtain⟨vss,hR,hl,hM⟩:=Kd.R_raw line0 hb
  obtain⟨ad,cc,hA,hK,hcc⟩:=Kd.atC (Kd.R_C hR) [] (i:=(j:Int)) (by omega) (by omega)
  obtain⟨B,c2,e5,hlc,hv⟩:=kLine_M_slice (hM j (by omega))
  obtain rfl:cc=vss.getD (j:Int).toNat []:=hK.1
  have h9:CellsAt w (ad.add (j*4)) (vss.getD j []):=hcc
  rw[e5]at h9
  exact⟨ad,_,_,B,_,c2,_,hA,h9,LiesO.of_R (d:=kAttr) hv fun k h1 _ h3=>hok k h1 h3,hm j (by omega)⟩
end Go.Proofs.YtgphmfnkeolbcaaGreatDoor.RX
set_option linter.unusedVariables false
set_option linter.unusedSimpArgs false
set_option maxRecDepth 100000
namespace Go.Proofs.YtgphmfnkeolbcaaGreatDoor
open Go Go.RowKit RX
theorem ent108 :Ent Tryz.prog 108:=ent_of Tryz.func108 (by kernel_rfl) rfl
theorem ent40 :Ent Tryz.prog 40:=ent_of Tryz.func40 (by kernel_rfl) rfl
theorem list_any (es:List Addr)(w:World)(h:Errs w es):Rt 108 #[] w (.agg (errAgg es)):=by
 refine en Tryz.func108 rfl 21 [] (fun R_ hR_=>?_)
 refine sg (xwe 1 [] [(0,pw w.heap.size 0)] (w.alloc (.cells #[.nilIface,.nilIface,.nilIface,.nilIface,.nilIface,.nilIface,.nilIface,.nilIface,.nilIface,.nilIface,.nilIface,.nilIface,.nilIface,.nilIface,.nilIface,.nilIface,.nilIface,.nilIface,.nilIface] 152)) [] trivial ?_)
 obtain⟨w1,w5,b2,k3,z4⟩:=new_world w #[.nilIface,.nilIface,.nilIface,.nilIface,.nilIface,.nilIface,.nilIface,.nilIface,.nilIface,.nilIface,.nilIface,.nilIface,.nilIface,.nilIface,.nilIface,.nilIface,.nilIface,.nilIface,.nilIface] 152
 rw[w5]
 refine nl (sg (xr 20 [(1,.load (ev es 1)),(2,.load (ev es 2)),(3,.load (ev es 3)),(4,.load (ev es 4)),(5,.load (ev es 5)),(6,.load (ev es 6)),(7,.load (ev es 7)),(8,.load (ev es 8)),(9,.load (ev es 9)),(10,.load (ev es 10)),(11,.load (ev es 11)),(12,.load (ev es 12)),(13,.load (ev es 13)),(14,.load (ev es 14)),(15,.load (ev es 15)),(16,.load (ev es 16)),(17,.load (ev es 17)),(18,.load (ev es 18)),(19,.load (ev es 19))] [(20,.agg #[ev es 1,ev es 2,ev es 3,ev es 4,ev es 5,ev es 6,ev es 7,ev es 8,ev es 9,ev es 10,ev es 11,ev es 12,ev es 13,ev es 14,ev es 15,ev es 16,ev es 17,ev es 18,ev es 19])] [] [la 35 (⟨6,0,none⟩) (ev es 1) w1,la 35 (⟨7,0,none⟩) (ev es 2) w1,la 35 (⟨8,0,none⟩) (ev es 3) w1,la 35 (⟨9,0,none⟩) (ev es 4) w1,la 35 (⟨5,0,none⟩) (ev es 5) w1,la 35 (⟨4,0,none⟩) (ev es 6) w1,la 35 (⟨10,0,none⟩) (ev es 7) w1,la 35 (⟨11,0,none⟩) (ev es 8) w1,la 35 (⟨0,0,none⟩) (ev es 9) w1,la 35 (⟨12,0,none⟩) (ev es 10) w1,la 35 (⟨3,0,none⟩) (ev es 11) w1,la 35 (⟨1,0,none⟩) (ev es 12) w1,la 35 (⟨13,0,none⟩) (ev es 13) w1,la 35 (⟨2,0,none⟩) (ev es 14) w1,la 35 (⟨14,0,none⟩) (ev es 15) w1,la 35 (⟨15,0,none⟩) (ev es 16) w1,la 35 (⟨16,0,none⟩) (ev es 17) w1,la 35 (⟨17,0,none⟩) (ev es 18) w1,la 35 (⟨18,0,none⟩) (ev es 19) w1] ⟨loads1 rfl ((b2.cell (World.block_lt_of_cell? _ _ (h.load 1 6 (by decide) (by decide) rfl))).trans (h.load 1 6 (by decide) (by decide) rfl)),loads1 rfl ((b2.cell (World.block_lt_of_cell? _ _ (h.load 2 7 (by decide) (by decide) rfl))).trans (h.load 2 7 (by decide) (by decide) rfl)),loads1 rfl ((b2.cell (World.block_lt_of_cell? _ _ (h.load 3 8 (by decide) (by decide) rfl))).trans (h.load 3 8 (by decide) (by decide) rfl)),loads1 rfl ((b2.cell (World.block_lt_of_cell? _ _ (h.load 4 9 (by decide) (by decide) rfl))).trans (h.load 4 9 (by decide) (by decide) rfl)),loads1 rfl ((b2.cell (World.block_lt_of_cell? _ _ (h.load 5 5 (by decide) (by decide) rfl))).trans (h.load 5 5 (by decide) (by decide) rfl)),loads1 rfl ((b2.cell (World.block_lt_of_cell? _ _ (h.load 6 4 (by decide) (by decide) rfl))).trans (h.load 6 4 (by decide) (by decide) rfl)),loads1 rfl ((b2.cell (World.block_lt_of_cell? _ _ (h.load 7 10 (by decide) (by decide) rfl))).trans (h.load 7 10 (by decide) (by decide) rfl)),loads1 rfl ((b2.cell (World.block_lt_of_cell? _ _ (h.load 8 11 (by decide) (by decide) rfl))).trans (h.load 8 11 (by decide) (by decide) rfl)),loads1 rfl ((b2.cell (World.block_lt_of_cell? _ _ (h.load 9 0 (by decide) (by decide) rfl))).trans (h.load 9 0 (by decide) (by decide) rfl)),loads1 rfl ((b2.cell (World.block_lt_of_cell? _ _ (h.load 10 12 (by decide) (by decide) rfl))).trans (h.load 10 12 (by decide) (by decide) rfl)),loads1 rfl ((b2.cell (World.block_lt_of_cell? _ _ (h.load 11 3 (by decide) (by decide) rfl))).trans (h.load 11 3 (by decide) (by decide) rfl)),loads1 rfl ((b2.cell (World.block_lt_of_cell? _ _ (h.load 12 1 (by decide) (by decide) rfl))).trans (h.load 12 1 (by decide) (by decide) rfl)),loads1 rfl ((b2.cell (World.block_lt_of_cell? _ _ (h.load 13 13 (by decide) (by decide) rfl))).trans (h.load 13 13 (by decide) (by decide) rfl)),loads1 rfl ((b2.cell (World.block_lt_of_cell? _ _ (h.load 14 2 (by decide) (by decide) rfl))).trans (h.load 14 2 (by decide) (by decide) rfl)),loads1 rfl ((b2.cell (World.block_lt_of_cell? _ _ (h.load 15 14 (by decide) (by decide) rfl))).trans (h.load 15 14 (by decide) (by decide) rfl)),loads1 rfl ((b2.cell (World.block_lt_of_cell? _ _ (h.load 16 15 (by decide) (by decide) rfl))).trans (h.load 16 15 (by decide) (by decide) rfl)),loads1 rfl ((b2.cell (World.block_lt_of_cell? _ _ (h.load 17 16 (by decide) (by decide) rfl))).trans (h.load 17 16 (by decide) (by decide) rfl)),loads1 rfl ((b2.cell (World.block_lt_of_cell? _ _ (h.load 18 17 (by decide) (by decide) rfl))).trans (h.load 18 17 (by decide) (by decide) rfl)),loads1 rfl ((b2.cell (World.block_lt_of_cell? _ _ (h.load 19 18 (by decide) (by decide) rfl))).trans (h.load 19 18 (by decide) (by decide) rfl)),trivial⟩ ?_))
 refine xst (.agg #[ev es 1,ev es 2,ev es 3,ev es 4,ev es 5,ev es 6,ev es 7,ev es 8,ev es 9,ev es 10,ev es 11,ev es 12,ev es 13,ev es 14,ev es 15,ev es 16,ev es 17,ev es 18,ev es 19]) k3 0 #[ev es 1,ev es 2,ev es 3,ev es 4,ev es 5,ev es 6,ev es 7,ev es 8,ev es 9,ev es 10,ev es 11,ev es 12,ev es 13,ev es 14,ev es 15,ev es 16,ev es 17,ev es 18,ev es 19] (fun w_6 g7 k8 z9=>?_)
 refine nl (X_ret (RX.ret_cell (P:=Tryz.prog) (fn:=Tryz.f108) (N:=21) (R:=R_) (c:=0) (t:=152) (p:=⟨w.heap.size,0,none⟩) (v:=.agg #[ev es 1,ev es 2,ev es 3,ev es 4,ev es 5,ev es 6,ev es 7,ev es 8,ev es 9,ev es 10,ev es 11,ev es 12,ev es 13,ev es 14,ev es 15,ev es 16,ev es 17,ev es 18,ev es 19]) rfl rfl (lB k8 0) (hR_ _ _ ?_)))
 exact⟨rfl,(bg b2 g7 (Nat.le_refl _))⟩
theorem num_nil (w:World):Rt 40 #[.nilIface] w (i6 0):=by
 refine en Tryz.func40 rfl 18 [(0,.nilIface)] (fun R_ hR_=>?_)
 refine sg (xe0 1 [(0,.nilIface)] ?_)
 refine nl (sq (sg (xr0 2 [(6,bT)] [] ?_)))
 refine nl (ct (sg (xe0 1 [(2,i6 0)] ?_)))
 refine nl (X_ret (rj [i6 0] hR_ ?_))
 exact⟨rfl,(Below.refl _ _)⟩
theorem num_err (es:List Addr)(n:Nat)(hn:0<n)(hn':n≤19)(w:World)(h:Errs w es):Rt 40 #[.iface 301 (.pointer (some (errAt es n)))] w (i6 (n:Int)):=by
 refine en Tryz.func40 rfl 18 [(0,.iface 301 (.pointer (some (errAt es n))))] (fun R_ hR_=>?_)
 refine sg (xe0 1 [(0,.iface 301 (.pointer (some (errAt es n))))] ?_)
 refine nl (sq (sg (xr0 2 [(6,bF)] [] ?_)))
 refine nl (cf (sk (sq (sg (xc 108 ent108 [] (list_any es _ (h.below (Below.refl _ _))) ?_)))))
 rintro e w1 ⟨rfl,b2⟩; refine⟨_,rfl,?_⟩
 refine xr0 1 [(7,.agg (errAgg es)),(8,i6 0)] [6] ?_
 refine nl (bk (X_loop (ι:=Nat) (fun i=>[(0,.iface 301 (.pointer (some (errAt es n)))),(7,.agg (errAgg es)),(8,i6 (i:Int))]) (fun i wl=>i<n∧Below w.heap.size w wl) (fun i=>n-i) 0 ⟨by omega,b2⟩ (by kernel_rfl) ?_))
 rintro i wl ⟨hi,HB⟩
 refine sq (X_region ?_)
 by_cases c3:(i:Int)<19
 ·refine xr1 1 [(9,.eq bT)] [(9,bT)] [] (dT c3) ?_
  refine nl (sq (ct (sk (sq (bk (sg (xr 4 [(11,.as (.iface 301 (.pointer (some (errAt es (i+1))))))] [(3,nv i),(4,.iface 301 (.pointer (some (errAt es (i+1)))))] [9] [RunsAs Tryz.prog [(7,.agg (errAgg es)),(8,i6 (i:Int))] (Go.Op.index 152 (Go.Operand.tmp 7) (Go.Operand.tmp 8)) 35 (.iface 301 (.pointer (some (errAt es (i+1))))) wl] ⟨runs_index rfl rfl (err_index es i (by omega) _),trivial⟩ ?_)))))))
  refine nl (sg (xr0 2 [(12,.iface 301 (.pointer (some (errAt es n)))),(13,.iface 301 (.pointer (some (errAt es (i+1)))))] [4] ?_))
  by_cases c4:n=i+1
  ·refine xr 1 [(14,.as bT)] [(14,bT)] [12,13] [RunsAs Tryz.prog [(12,.iface 301 (.pointer (some (errAt es n)))),(13,.iface 301 (.pointer (some (errAt es (i+1)))))] (Go.Op.binOp Go.BinOp.eql 35 (Go.Operand.tmp 12) (Go.Operand.tmp 13) 35) 4 bT wl] ⟨runs_bin rfl rfl rfl (by have h:=(h.below HB).eql (n:=n) (m:=i+1) (by omega) (by omega) (by omega) (by omega); rw[decide_eq_true c4]at h; exact h),trivial⟩ ?_
   refine nl (ct (sg (xe1 3 [(16,.eq (i6 ((i:Int)+1)))] [(2,i6 ((i:Int)+1))] (w6 ((i:Int)+1)) ?_)))
   refine nl (X_ret (rj [i6 ((i:Int)+1)] hR_ ?_))
   exact⟨ret_int (by omega),HB⟩
  refine xr 1 [(14,.as bF)] [(14,bF)] [12,13] [RunsAs Tryz.prog [(12,.iface 301 (.pointer (some (errAt es n)))),(13,.iface 301 (.pointer (some (errAt es (i+1)))))] (Go.Op.binOp Go.BinOp.eql 35 (Go.Operand.tmp 12) (Go.Operand.tmp 13) 35) 4 bF wl] ⟨runs_bin rfl rfl rfl (by have h:=(h.below HB).eql (n:=n) (m:=i+1) (by omega) (by omega) (by omega) (by omega); rw[decide_eq_false c4]at h; exact h),trivial⟩ ?_
  refine nl (cf (sk (rg (xr1 2 [(17,.eq (i6 ((i:Int)+1)))] [(8,i6 ((i:Int)+1))] [3,14] (w6 ((i:Int)+1)) ?_))))
  refine nl ?_
  refine⟨(i+1),by kernel_rfl,?_,?_⟩
  ·exact⟨by omega,HB⟩
  (try dsimp only); omega
 exfalso; omega
theorem num_any (es:List Addr)(n:Nat)(hn:n≤19)(w:World)(h:Errs w es):Rt 40 #[errV es n] w (i6 (n:Int)):=by
 by_cases h0:n=0
 ·subst h0
  exact num_nil w
 rw[errV_pos _ _ (by omega)]
 exact num_err es n (by omega) hn w h
end Go.Proofs.YtgphmfnkeolbcaaGreatDoor
set_option linter.unusedVariables false
set_option linter.unusedSimpArgs false
set_option maxRecDepth 100000
namespace Go.Proofs.YtgphmfnkeolbcaaGreatDoor
open Go Go.RowKit Go.Proofs.YtgphmfnkeolbcaaGreatDoorW.PrintWords RX
theorem fine_all2 {xs:List OpA}(hz:∀ i,i<xs.length→opSz (xs.getD i op0)):∀ o∈xs,B.fine o:=fun o ho=>by
  obtain⟨i,hi,rfl⟩:=List.getElem_of_mem ho
  have:=hz i hi
  rw[List.getD_eq_getElem?_getD,List.getElem?_eq_getElem hi]at this
  exact B.fine_of this
end Go.Proofs.YtgphmfnkeolbcaaGreatDoor
