import Derived.Test.YtlnnjfdonilgmaaGreatDoorA2
import Derived.Test.YtlnnjfdonilgmaaGreatDoorWEqStruct
import Derived.Test.YtlnnjfdonilgmaaGreatDoorRX
/- What slices.Equal over attributes and the reference's Same answer. No condition but lengths. -/
set_option linter.unusedVariables false
set_option linter.unusedSimpArgs false
set_option maxRecDepth 100000
namespace Go.Proofs.YtlnnjfdonilgmaaGreatDoor
open Go Go.RowKit Go.Proofs.YtlnnjfdonilgmaaGreatDoorW.PrintWords RX
theorem ent97 :Ent Tryz.prog 97:=ent_of Tryz.func97 (by kernel_rfl) rfl
theorem ent75 :Ent Tryz.prog 75:=ent_of Tryz.func75 (by kernel_rfl) rfl
def atEq (x y:At):Bool:=(x.1.toList==y.1.toList)&&((x.2.1==y.2.1)&&((x.2.2.1==y.2.2.1)&&(x.2.2.2.toList==y.2.2.2.toList)))
theorem plain_eql (a b:Int)(s:ByteArray)(c d:Int)(t:ByteArray)(w:World):(Op.equalIn 9999 67 (.agg #[i6 a,i6 b,sT s]) (.agg #[i6 c,i6 d,sT t])).run Tryz.prog w=.ok ((a==c)&&((b==d)&&(s.toList==t.toList))) w:=by
 refine eqA_of (d:=9998) Tryz.underlying67 (by kernel_rfl) ?_
 exact eqf_cons (a:=i6 a) (b:=i6 c) rfl (by kernel_rfl) (by kernel_rfl) (run_equalIn_int _ _ _ _ _ _ _ Tryz.underlying3) (eqf_cons (a:=i6 b) (b:=i6 d) rfl (by kernel_rfl) (by kernel_rfl) (run_equalIn_int _ _ _ _ _ _ _ Tryz.underlying2) (eqf_last (a:=sT s) (b:=sT t) rfl (by kernel_rfl) (by kernel_rfl) (run_equalIn_string _ _ _ _ _ Tryz.underlying9)))
theorem attr_eql (x y:At)(w:World):(Op.equalIn 10000 148 (.agg (atV x).toArray) (.agg (atV y).toArray)).run Tryz.prog w=.ok (atEq x y) w:=by
 refine eqA_of (d:=9999) Tryz.underlying148 (by kernel_rfl) ?_
 exact eqf_cons (a:=sT x.1) (b:=sT y.1) rfl (by kernel_rfl) (by kernel_rfl) (run_equalIn_string _ _ _ _ _ Tryz.underlying9) (eqf_last (a:=.agg #[i6 x.2.1,i6 x.2.2.1,sT x.2.2.2]) (b:=.agg #[i6 y.2.1,i6 y.2.2.1,sT y.2.2.2]) rfl (by kernel_rfl) (by kernel_rfl) (plain_eql _ _ _ _ _ _ w))
theorem attr_neq (x y:At)(w:World):(binOp .neq 148 (.agg (a4 x)) (.agg (a4 y))).run Tryz.prog w=.ok (.bool (!(atEq x y))) w:=by
 have h:=attr_eql x y w
 rw[run_neq_struct]
 show ((Op.equalIn 10000 148 (.agg (atV x).toArray) (.agg (atV y).toArray)).run Tryz.prog w).andThen _=_
 rw[h]; rfl
theorem atEq_iff (x y:At):atEq x y=true↔x=y:=by
 obtain⟨a,b,c,d⟩:=x
 obtain⟨a',b',c',d'⟩:=y
 simp only[atEq,Bool.and_eq_true,beq_iff_eq,Prod.mk.injEq]
 exact⟨fun⟨h1,h2,h3,h4⟩=>⟨bytes_ext h1,h2,h3,bytes_ext h4⟩,fun⟨h1,h2,h3,h4⟩=>⟨by rw[h1],h2,h3,by rw[h4]⟩⟩
theorem equal_any (A A':Option Addr)(c c':Nat)(xs ys:List At)(w:World)(hx:kAttr.C w A xs.length xs)(hy:kAttr.C w A' ys.length ys):
  Rt 97 #[.slice A xs.length c,aL A' ys c'] w (.bool (decide (xs=ys))):=by
 have hpl:xs.length≤9223372036854775807:=hx.2.1
 refine en Tryz.func97 rfl 26 [(0,aL A xs c),(1,aL A' ys c')] (fun R_ hR_=>?_)
 refine sg (xe0 1 [(0,aL A xs c),(1,aL A' ys c')] ?_)
 refine nl (sq (sg (xr0 4 [(7,i6 (xs.length:Int)),(9,i6 (ys.length:Int))] [] ?_)))
 by_cases c1:(xs.length:Int)=(ys.length:Int)
 ·refine xr1 1 [(10,.eq bF)] [(10,bF)] [7,9] (nF c1) ?_
  refine nl (cf (sk (sq (sg (xr0 3 [(12,i6 (xs.length:Int)),(13,i6 0)] [10] ?_)))))
  refine nl (bk (X_loop (ι:=Nat) (fun i=>[(0,aL A xs c),(1,aL A' ys c'),(12,i6 (xs.length:Int)),(13,i6 (i:Int))]) (fun i wl=>i≤xs.length∧xs.length=ys.length∧(∀ q,q<i→xs.getD q at0=ys.getD q at0)∧Below w.heap.size w wl) (fun i=>xs.length-i) 0 ⟨by omega,by omega,fun q hq=>by omega,(Below.refl _ _)⟩ (by kernel_rfl) ?_))
  rintro i wl ⟨hi,hlen,hq0,HB⟩
  refine sq (X_region ?_)
  by_cases c2:(i:Int)<(xs.length:Int)
  ·refine xr1 1 [(14,.eq bT)] [(14,bT)] [] (dT c2) ?_
   refine nl (sq (ct (sk (sq (bk (sg (xr0 2 [(5,nv i)] [14] ?_)))))))
   refine nl (sq (X_still (by kernel_rfl) (by kernel_rfl) (fun wd3 b4 h5=>?_)))
   refine xsC 2 [] [(16,aL A xs c),(17,nv i)] [] [] trivial ?_
   obtain⟨ad6,a7,c8⟩:=Kd.atAttr (Kd.C_below hx (bt HB b4)) (i:=(i:Int)) (by omega) (by omega)
   replace c8:CellsAt wd3 (ad6.add ((i:Int).toNat*4)) [sT ((xs.getD i at0).1),i6 ((xs.getD i at0).2.1),i6 ((xs.getD i at0).2.2.1),sT ((xs.getD i at0).2.2.2)]:=c8
   refine xsC 4 [(18,.idx ad6),(19,.load (.agg (a4 (xs.getD i at0))))] [(19,.agg (a4 (xs.getD i at0))),(20,aL A' ys c'),(21,nv i)] [5,16,17] [A=some ad6,(0:Int)≤(i:Int),(i:Int)<(xs.length:Int),la 148 (ad6.add ((i:Int).toNat*4)) (.agg (a4 (xs.getD i at0))) wd3] ⟨a7,(by omega),(by omega),loadsE rfl rfl c8 0 ⟨by kernel_rfl,by kernel_rfl⟩,trivial⟩ ?_
   obtain⟨ad9,a10,c11⟩:=Kd.atAttr (Kd.C_below hy (bt HB b4)) (i:=(i:Int)) (by omega) (by omega)
   replace c11:CellsAt wd3 (ad9.add ((i:Int).toNat*4)) [sT ((ys.getD i at0).1),i6 ((ys.getD i at0).2.1),i6 ((ys.getD i at0).2.2.1),sT ((ys.getD i at0).2.2.2)]:=c11
   refine xsC 2 [(22,.idx ad9),(23,.load (.agg (a4 (ys.getD i at0))))] [(23,.agg (a4 (ys.getD i at0)))] [20,21] [A'=some ad9,(0:Int)≤(i:Int),(i:Int)<(ys.length:Int),la 148 (ad9.add ((i:Int).toNat*4)) (.agg (a4 (ys.getD i at0))) wd3] ⟨a10,(by omega),(by omega),loadsE rfl rfl c11 0 ⟨by kernel_rfl,by kernel_rfl⟩,trivial⟩ ?_
   by_cases c12:(xs.getD i at0)=(ys.getD i at0)
   ·refine xse 1 [(24,.as bF)] [(0,aL A xs c),(1,aL A' ys c'),(12,i6 (xs.length:Int)),(13,i6 (i:Int)),(24,bF)] [RunsAs Tryz.prog [(19,.agg (a4 (xs.getD i at0))),(23,.agg (a4 (ys.getD i at0)))] (Go.Op.binOp Go.BinOp.neq 148 (Go.Operand.tmp 19) (Go.Operand.tmp 23) 148) 4 bF wd3] ⟨runs_bin rfl rfl (run_eqGuard_agg _ _ _ _ _ _ _ (by kernel_rfl)) (by have h:=attr_neq (xs.getD i at0) (ys.getD i at0) wd3; rw[show atEq (xs.getD i at0) (ys.getD i at0)=true from(atEq_iff _ _).2 c12]at h; exact h),trivial⟩ ?_
    refine XS_nil ?_
    refine cf (sk (rg (xr1 2 [(25,.eq (i6 ((i:Int)+1)))] [(13,i6 ((i:Int)+1))] [24] (w6 ((i:Int)+1)) ?_)))
    refine nl ?_
    refine⟨(i+1),by kernel_rfl,?_,?_⟩
    ·exact⟨by omega,by omega,fun q hq=>by by_cases e:q=i; (· subst e; exact c12); (· exact hq0 q (by omega)),(bt HB b4)⟩
    (try dsimp only); omega
   refine xse 1 [(24,.as bT)] [(0,aL A xs c),(1,aL A' ys c'),(12,i6 (xs.length:Int)),(13,i6 (i:Int)),(24,bT)] [RunsAs Tryz.prog [(19,.agg (a4 (xs.getD i at0))),(23,.agg (a4 (ys.getD i at0)))] (Go.Op.binOp Go.BinOp.neq 148 (Go.Operand.tmp 19) (Go.Operand.tmp 23) 148) 4 bT wd3] ⟨runs_bin rfl rfl (run_eqGuard_agg _ _ _ _ _ _ _ (by kernel_rfl)) (by have h:=attr_neq (xs.getD i at0) (ys.getD i at0) wd3; rw[show atEq (xs.getD i at0) (ys.getD i at0)=false from Bool.eq_false_iff.2 (fun k=>c12 ((atEq_iff _ _).1 k))]at h; exact h),trivial⟩ ?_
   refine XS_nil ?_
   refine ct (sg (xe0 1 [(4,bF)] ?_))
   refine nl (X_ret (rj [bF] hR_ ?_))
   rw[decide_eq_false (fun e=>c12 (by rw[e]))]
   exact⟨rfl,(bt HB b4)⟩
  refine xr1 1 [(14,.eq bF)] [(14,bF)] [] (dF c2) ?_
  refine nl (sq (cf (X_exit (sg (xe0 1 [(4,bT)] ?_)))))
  refine nl (X_ret (rj [bT] hR_ ?_))
  rw[decide_eq_true (show xs=ys from List.ext_getElem hlen fun q h1 h2=>by have:=hq0 q (by omega); simpa [List.getD_eq_getElem?_getD,List.getElem?_eq_getElem h1,List.getElem?_eq_getElem h2] using this)]
  exact⟨rfl,HB⟩
 refine xr1 1 [(10,.eq bT)] [(10,bT)] [7,9] (nT c1) ?_
 refine nl (ct (sg (xe0 1 [(4,bF)] ?_)))
 refine nl (X_ret (rj [bF] hR_ ?_))
 rw[decide_eq_false (show ¬xs=ys from fun e=>by subst e; omega)]
 exact⟨rfl,(Below.refl _ _)⟩
theorem asame_any (A A':Option Addr)(c c':Nat)(xs ys:List At)(w:World)(hx:kAttr.C w A xs.length xs)(hy:kAttr.C w A' ys.length ys):
  Rt 75 #[.slice A xs.length c,aL A' ys c'] w (.bool (decide (xs=ys))):=by
 refine en Tryz.func75 rfl 8 [(0,aL A xs c),(1,aL A' ys c')] (fun R_ hR_=>?_)
 refine sg (xe0 1 [(0,aL A xs c),(1,aL A' ys c')] ?_)
 refine nl (sg (xe0 2 [(5,aL A xs c),(6,aL A' ys c')] ?_))
 refine xc 97 ent97 [.slice A xs.length c,aL A' ys c'] (equal_any _ _ _ _ xs ys _ hx hy) ?_
 rintro e w1 ⟨rfl,b2⟩; refine⟨_,rfl,?_⟩
 refine xe0 1 [(4,.bool (decide (xs=ys)))] ?_
 refine nl (X_ret (rj [.bool (decide (xs=ys))] hR_ ?_))
 exact⟨rfl,b2⟩
end Go.Proofs.YtlnnjfdonilgmaaGreatDoor

set_option linter.unusedVariables false
set_option linter.unusedSimpArgs false
namespace Go.Proofs.YtlnnjfdonilgmaaGreatDoor.RX
open Go Go.RowKit
section
variable {P : Program} {N : Nat} {ops : Array Oper} {qs : QS} {rest : List Oper} {o : Oper} {l : Slots} {w : World}
theorem XL_inv (f:FuncId)(args:Array Value)(hg:gd ops l o=some true)(hd:okD N o.dst=true)(hk:(known l o&&notSelect o.op)=true)(hr:(execOp (evD l) o).run P w=.ok (.enter f args) w)
    {R:Ending→World→Prop} (hc:Calls P f args w R) (hn:∀ e w',R e w'→∃ v,e=.returned v∧XL P N ops rest qs (putS l o.dst v) w'):XL P N ops (o::rest) qs l w:=by
  intro a ha
  simp only[Bool.and_eq_true]at hk
  refine wpList_step fun K hK=>?_
  rw[if_pos (gd_ok ha hg)]
  refine wp_enter (f:=f) (args:=args) (by rw[run_known ha P w hk.1 hk.2]; exact hr) hc fun e w' hR=>?_
  obtain⟨v,h1,h2⟩:=hn e w' hR
  exact⟨v,h1,hK _ _ (h2 _ (ha.putS hd v))⟩
end
end Go.Proofs.YtlnnjfdonilgmaaGreatDoor.RX
