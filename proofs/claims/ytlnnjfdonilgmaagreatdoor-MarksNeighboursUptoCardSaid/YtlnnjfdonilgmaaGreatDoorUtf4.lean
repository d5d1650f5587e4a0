import Derived.Test.YtlnnjfdonilgmaaGreatDoorA2
import Derived.Test.YtlnnjfdonilgmaaGreatDoorWEqStruct
import Derived.Test.YtlnnjfdonilgmaaGreatDoorRX
import Derived.Test.YtlnnjfdonilgmaaGreatDoorO1
import Derived.Test.YtlnnjfdonilgmaaGreatDoorUtf3
/- What slices.Equal over attributes and the reference's Same answer. No condition but lengths. -/
set_option linter.unusedVariables false
set_option linter.unusedSimpArgs false
set_option maxRecDepth 100000
namespace Go.Proofs.YtlnnjfdonilgmaaGreatDoor
open Go Go.RowKit Go.Proofs.YtlnnjfdonilgmaaGreatDoorW.PrintWords RX
theorem ent97 :Ent Tryz.prog 97:=ent_of Tryz.func97 (by kernel_rfl) rfl
theorem ent75 :Ent Tryz.prog 75:=ent_of Tryz.func75 (by kernel_rfl) rfl
def atEq (x y:At):Bool:=(x.1.toList==y.1.toList)&&((x.2.1==y.2.1)&&((x.2.2.1==y.2.2.1)&&(x.2.2.2.toList==y.2.2.2.toList)))
theorem plain_eql (a b:Int)(s:ByteArray)(c d:Int)(t:ByteArray)(w:World):(Op.equalIn 9999 67 (.agg #[i6 a,i6 b,sT s]) (.agg #[i6 c,i6 d,sT t])).run Tryz.prog w=.ok ((a==c)&&((b==d)&&(s.toList==t.toList))) w:=by
 refine eqA_of (d:=9998) Tryz.underlying67 (by kernel_rfl) ?_
 exact eqf_cons (a:=i6 a) (b:=i6 c) rfl (by kernel_rfl) (by kernel_rfl) (run_equalIn_int _ _ _ _ _ _ _ Tryz.underlying3) (eqf_cons (a:=i6 b) (b:=i6 d) rfl (by kernel_rfl) (by kernel_rfl) (run_equalIn_int _ _ _ _ _ _ _ Tryz.underlying2) (eqf_last (a:=sT s) (b:=sT t) rfl (by kernel_rfl) (by kernel_rfl) (run_equalIn_string _ _ _ _ _ Tryz.underlying9)))
theorem attr_eql (x y:At)(w:World):(Op.equalIn 10000 148 (.agg (atV x).toArray) (.agg (atV y).toArray)).run Tryz.prog w=.ok (atEq x y) w:=by
 refine eqA_of (d:=9999) Tryz.underlying148 (by kernel_rfl) ?_
 exact eqf_cons (a:=sT x.1) (b:=sT y.1) rfl (by kernel_rfl) (by kernel_rfl) (run_equalIn_string _ _ _ _ _ Tryz.underlying9) (eqf_last (a:=.agg #[i6 x.2.1,i6 x.2.2.1,sT x.2.2.2]) (b:=.agg #[i6 y.2.1,i6 y.2.2.1,sT y.2.2.2]) rfl (by kernel_rfl) (by kernel_rfl) (plain_eql _ _ _ _ _ _ w))
theorem attr_neq (x y:At)(w:World):(binOp .neq 148 (.agg (a4 x)) (.agg (a4 y))).run Tryz.prog w=.ok (.bool (!(atEq x y))) w:=by
 have h:=attr_eql x y w
 rw[run_neq_struct]
 show ((Op.equalIn 10000 148 (.agg (atV x).toArray) (.agg (atV y).toArray)).run Tryz.prog w).andThen _=_
 rw[h]; rfl
theorem atEq_iff (x y:At):atEq x y=true↔x=y:=by
 obtain⟨a,b,c,d⟩:=x
 obtain⟨a',b',c',d'⟩:=y
 simp only[atEq,Bool.and_eq_true,beq_iff_eq,Prod.mk.injEq]
 exact⟨fun⟨h1,h2,h3,h4⟩=>⟨bytes_ext h1,h2,h3,bytes_ext h4⟩,fun⟨h1,h2,h3,h4⟩=>⟨by rw[h1],h2,h3,by rw[h4]⟩⟩
theorem equal_any (A A':Option Addr)(c c':Nat)(xs ys:List At)(w:World)(hx:kAttr.C w A xs.length xs)(hy:kAttr.C w A' ys.length ys):
  Rt 97 #[.slice A xs.length c,aL A' ys c'] w (.bool (decide (xs=ys))):=by
 have hpl:xs.length≤9223372036854775807:=hx.2.1
 refine en Tryz.func97 rfl 26 [(0,aL A xs c),(1,aL A' ys c')] (fun R_ hR_=>?_)
 refine sg (xe0 1 [(0,aL A xs c),(1,aL A' ys c')] ?_)
 refine nl (sq (sg (xr0 4 [(7,i6 (xs.length:Int)),(9,i6 (ys.length:Int))] [] ?_)))
 by_cases c1:(xs.length:Int)=(ys.length:Int)
 ·refine xr1 1 [(10,.eq bF)] [(10,bF)] [7,9] (nF c1) ?_
  refine nl (cf (sk (sq (sg (xr0 3 [(12,i6 (xs.length:Int)),(13,i6 0)] [10] ?_)))))
  refine nl (bk (X_loop (ι:=Nat) (fun i=>[(0,aL A xs c),(1,aL A' ys c'),(12,i6 (xs.length:Int)),(13,i6 (i:Int))]) (fun i wl=>i≤xs.length∧xs.length=ys.length∧(∀ q,q<i→xs.getD q at0=ys.getD q at0)∧Below w.heap.size w wl) (fun i=>xs.length-i) 0 ⟨by omega,by omega,fun q hq=>by omega,(Below.refl _ _)⟩ (by kernel_rfl) ?_))
  rintro i wl ⟨hi,hlen,hq0,HB⟩
  refine sq (X_region ?_)
  by_cases c2:(i:Int)<(xs.length:Int)
  ·refine xr1 1 [(14,.eq bT)] [(14,bT)] [] (dT c2) ?_
   refine nl (sq (ct (sk (sq (bk (sg (xr0 2 [(5,nv i)] [14] ?_)))))))
   refine nl (sq (X_still (by kernel_rfl) (by kernel_rfl) (fun wd3 b4 h5=>?_)))
   refine xsC 2 [] [(16,aL A xs c),(17,nv i)] [] [] trivial ?_
   obtain⟨ad6,a7,c8⟩:=Kd.atAttr (Kd.C_below hx (bt HB b4)) (i:=(i:Int)) (by omega) (by omega)
   replace c8:CellsAt wd3 (ad6.add ((i:Int).toNat*4)) [sT ((xs.getD i at0).1),i6 ((xs.getD i at0).2.1),i6 ((xs.getD i at0).2.2.1),sT ((xs.getD i at0).2.2.2)]:=c8
   refine xsC 4 [(18,.idx ad6),(19,.load (.agg (a4 (xs.getD i at0))))] [(19,.agg (a4 (xs.getD i at0))),(20,aL A' ys c'),(21,nv i)] [5,16,17] [A=some ad6,(0:Int)≤(i:Int),(i:Int)<(xs.length:Int),la 148 (ad6.add ((i:Int).toNat*4)) (.agg (a4 (xs.getD i at0))) wd3] ⟨a7,(by omega),(by omega),loadsE rfl rfl c8 0 ⟨by kernel_rfl,by kernel_rfl⟩,trivial⟩ ?_
   obtain⟨ad9,a10,c11⟩:=Kd.atAttr (Kd.C_below hy (bt HB b4)) (i:=(i:Int)) (by omega) (by omega)
   replace c11:CellsAt wd3 (ad9.add ((i:Int).toNat*4)) [sT ((ys.getD i at0).1),i6 ((ys.getD i at0).2.1),i6 ((ys.getD i at0).2.2.1),sT ((ys.getD i at0).2.2.2)]:=c11
   refine xsC 2 [(22,.idx ad9),(23,.load (.agg (a4 (ys.getD i at0))))] [(23,.agg (a4 (ys.getD i at0)))] [20,21] [A'=some ad9,(0:Int)≤(i:Int),(i:Int)<(ys.length:Int),la 148 (ad9.add ((i:Int).toNat*4)) (.agg (a4 (ys.getD i at0))) wd3] ⟨a10,(by omega),(by omega),loadsE rfl rfl c11 0 ⟨by kernel_rfl,by kernel_rfl⟩,trivial⟩ ?_
   by_cases c12:(xs.getD i at0)=(ys.getD i at0)
   ·refine xse 1 [(24,.as bF)] [(0,aL A xs c),(1,aL A' ys c'),(12,i6 (xs.length:Int)),(13,i6 (i:Int)),(24,bF)] [RunsAs Tryz.prog [(19,.agg (a4 (xs.getD i at0))),(23,.agg (a4 (ys.getD i at0)))] (Go.Op.binOp Go.BinOp.neq 148 (Go.Operand.tmp 19) (Go.Operand.tmp 23) 148) 4 bF wd3] ⟨runs_bin rfl rfl (run_eqGuard_agg _ _ _ _ _ _ _ (by kernel_rfl)) (by have h:=attr_neq (xs.getD i at0) (ys.getD i at0) wd3; rw[show atEq (xs.getD i at0) (ys.getD i at0)=true from(atEq_iff _ _).2 c12]at h; exact h),trivial⟩ ?_
    refine XS_nil ?_
    refine cf (sk (rg (xr1 2 [(25,.eq (i6 ((i:Int)+1)))] [(13,i6 ((i:Int)+1))] [24] (w6 ((i:Int)+1)) ?_)))
    refine nl ?_
    refine⟨(i+1),by kernel_rfl,?_,?_⟩
    ·exact⟨by omega,by omega,fun q hq=>by by_cases e:q=i; (· subst e; exact c12); (· exact hq0 q (by omega)),(bt HB b4)⟩
    (try dsimp only); omega
   refine xse 1 [(24,.as bT)] [(0,aL A xs c),(1,aL A' ys c'),(12,i6 (xs.length:Int)),(13,i6 (i:Int)),(24,bT)] [RunsAs Tryz.prog [(19,.agg (a4 (xs.getD i at0))),(23,.agg (a4 (ys.getD i at0)))] (Go.Op.binOp Go.BinOp.neq 148 (Go.Operand.tmp 19) (Go.Operand.tmp 23) 148) 4 bT wd3] ⟨runs_bin rfl rfl (run_eqGuard_agg _ _ _ _ _ _ _ (by kernel_rfl)) (by have h:=attr_neq (xs.getD i at0) (ys.getD i at0) wd3; rw[show atEq (xs.getD i at0) (ys.getD i at0)=false from Bool.eq_false_iff.2 (fun k=>c12 ((atEq_iff _ _).1 k))]at h; exact h),trivial⟩ ?_
   refine XS_nil ?_
   refine ct (sg (xe0 1 [(4,bF)] ?_))
   refine nl (X_ret (rj [bF] hR_ ?_))
   rw[decide_eq_false (fun e=>c12 (by rw[e]))]
   exact⟨rfl,(bt HB b4)⟩
  refine xr1 1 [(14,.eq bF)] [(14,bF)] [] (dF c2) ?_
  refine nl (sq (cf (X_exit (sg (xe0 1 [(4,bT)] ?_)))))
  refine nl (X_ret (rj [bT] hR_ ?_))
  rw[decide_eq_true (show xs=ys from List.ext_getElem hlen fun q h1 h2=>by have:=hq0 q (by omega); simpa [List.getD_eq_getElem?_getD,List.getElem?_eq_getElem h1,List.getElem?_eq_getElem h2] using this)]
  exact⟨rfl,HB⟩
 refine xr1 1 [(10,.eq bT)] [(10,bT)] [7,9] (nT c1) ?_
 refine nl (ct (sg (xe0 1 [(4,bF)] ?_)))
 refine nl (X_ret (rj [bF] hR_ ?_))
 rw[decide_eq_false (show ¬xs=ys from fun e=>by subst e; omega)]
 exact⟨rfl,(Below.refl _ _)⟩
theorem asame_any (A A':Option Addr)(c c':Nat)(xs ys:List At)(w:World)(hx:kAttr.C w A xs.length xs)(hy:kAttr.C w A' ys.length ys):
  Rt 75 #[.slice A xs.length c,aL A' ys c'] w (.bool (decide (xs=ys))):=by
 refine en Tryz.func75 rfl 8 [(0,aL A xs c),(1,aL A' ys c')] (fun R_ hR_=>?_)
 refine sg (xe0 1 [(0,aL A xs c),(1,aL A' ys c')] ?_)
 refine nl (sg (xe0 2 [(5,aL A xs c),(6,aL A' ys c')] ?_))
 refine xc 97 ent97 [.slice A xs.length c,aL A' ys c'] (equal_any _ _ _ _ xs ys _ hx hy) ?_
 rintro e w1 ⟨rfl,b2⟩; refine⟨_,rfl,?_⟩
 refine xe0 1 [(4,.bool (decide (xs=ys)))] ?_
 refine nl (X_ret (rj [.bool (decide (xs=ys))] hR_ ?_))
 exact⟨rfl,b2⟩
end Go.Proofs.YtlnnjfdonilgmaaGreatDoor

set_option linter.unusedVariables false
set_option linter.unusedSimpArgs false
namespace Go.Proofs.YtlnnjfdonilgmaaGreatDoor.RX
open Go Go.RowKit
section
variable {P : Program} {N : Nat} {ops : Array Oper} {qs : QS} {rest : List Oper} {o : Oper} {l : Slots} {w : World}
theorem XL_inv (f:FuncId)(args:Array Value)(hg:gd ops l o=some true)(hd:okD N o.dst=true)(hk:(known l o&&notSelect o.op)=true)(hr:(execOp (evD l) o).run P w=.ok (.enter f args) w)
    {R:Ending→World→Prop} (hc:Calls P f args w R) (hn:∀ e w',R e w'→∃ v,e=.returned v∧XL P N ops rest qs (putS l o.dst v) w'):XL P N ops (o::rest) qs l w:=by
  intro a ha
  simp only[Bool.and_eq_true]at hk
  refine wpList_step fun K hK=>?_
  rw[if_pos (gd_ok ha hg)]
  refine wp_enter (f:=f) (args:=args) (by rw[run_known ha P w hk.1 hk.2]; exact hr) hc fun e w' hR=>?_
  obtain⟨v,h1,h2⟩:=hn e w' hR
  exact⟨v,h1,hK _ _ (h2 _ (ha.putS hd v))⟩
end
end Go.Proofs.YtlnnjfdonilgmaaGreatDoor.RX
set_option linter.unusedVariables false
set_option linter.unusedSimpArgs false
set_option maxRecDepth 100000
namespace Go.Proofs.YtlnnjfdonilgmaaGreatDoor
open Go Go.RowKit Go.Proofs.YtlnnjfdonilgmaaGreatDoorW.PrintWords RX
theorem ent59 :Ent Tryz.prog 59:=ent_of Tryz.func59 (by kernel_rfl) rfl
theorem ent60 :Ent Tryz.prog 60:=ent_of Tryz.func60 (by kernel_rfl) rfl
theorem info70 :(Tryz.prog.info? 70).map (fun i=>(i.zero,i.size,i.bytes))=some (some (.agg #[i6 0,s0,i6 0,i6 0,s0,i6 0,.slice none 0 0]),7,88):=by kernel_rfl
theorem info123 :(Tryz.prog.info? 123).map (fun i=>(i.zero,i.size,i.bytes))=some (some .nilIface,1,16):=by kernel_rfl
theorem insertLen_any (A:Option Addr)(n c:Nat)(t:ByteArray)(k:Int)(w:World):Rt 146 #[.agg #[.slice A n c,sT t,i6 k]] w (i6 k):=by
 refine en Tryz.func146 rfl 5 [(0,.agg #[.slice A n c,sT t,i6 k])] (fun R_ hR_=>?_)
 refine sg (xwe 1 [] [(1,pw w.heap.size 0)] (w.alloc (.cells #[.slice A n c,sT t,i6 k] 153)) [] trivial ?_)
 obtain⟨w1,w5,b2,k3,z4⟩:=new_world w #[.slice A n c,sT t,i6 k] 153
 rw[w5]
 refine xr0 1 [] [] ?_
 refine nl (sg (xe1 3 [(4,.load (i6 k))] [(2,i6 k)] (lc 3 k3 2) ?_))
 refine nl (X_ret (rj [i6 k] hR_ ?_))
 exact⟨rfl,b2⟩
theorem embedLen_any (A:Option Addr)(n c:Nat)(t:ByteArray)(v:Value)(w:World):Rt 148 #[.agg #[.slice A n c,sT t,v]] w (i6 1):=by
 refine en Tryz.func148 rfl 3 [(0,.agg #[.slice A n c,sT t,v])] (fun R_ hR_=>?_)
 refine sg (xwe 1 [] [] (w.alloc (.cells #[.slice A n c,sT t,v] 157)) [] trivial ?_)
 obtain⟨w1,w5,b2,k3,z4⟩:=new_world w #[.slice A n c,sT t,v] 157
 rw[w5]
 refine xe0 1 [] ?_
 refine nl (sg (xe0 1 [(2,i6 1)] ?_))
 refine nl (X_ret (rj [i6 1] hR_ ?_))
 exact⟨rfl,b2⟩
theorem ocheck_any (o:OpA)(A:Option Addr)(c:Nat)(w:World)(hA:kAttr.C w A o.attrs.length o.attrs)(hz:opSz o)(hT:Tabs w)(es:List Addr)(hE:ErrsO w es):Rt 59 #[.agg (o7A o (.slice A o.attrs.length c))] w (errV es (pErr o)):=by
 refine en Tryz.func59 rfl 11 [(0,.agg (o7A o (aL A o.attrs c)))] (fun R_ hR_=>?_)
 refine sg (xwe 1 [] [(1,pw w.heap.size 0)] (w.alloc (.cells (o7A o (aL A o.attrs c)) 70)) [] trivial ?_)
 obtain⟨w1,w5,b2,k3,z4⟩:=new_world w (o7A o (aL A o.attrs c)) 70
 rw[w5]
 refine xr0 1 [] [] ?_
 refine nl (sg (xe 1 [(6,.load (.agg (o7A o (aL A o.attrs c))))] [(6,.agg (o7A o (aL A o.attrs c)))] [la 70 (⟨w.heap.size,0,none⟩) (.agg (o7A o (aL A o.attrs c))) w1] ⟨loadsB rfl rfl k3 0 ⟨by kernel_rfl,by kernel_rfl⟩,trivial⟩ ?_))
 refine xc 74 ent74 [.agg (o7A o (aL A o.attrs c))] (piece_any o _ _ _ (Kd.C_below hA b2) hz (hT.below b2) es (hE.below b2)) ?_
 rintro e w9 ⟨v6,rfl,M7,N8,b10⟩; refine⟨_,rfl,?_⟩
 refine xe0 5 [(4,errV es (pErr o))] ?_
 refine nl (sg (xe0 2 [(2,errV es (pErr o))] ?_))
 refine nl (X_ret (rj [errV es (pErr o)] hR_ ?_))
 exact⟨rfl,(bt b2 b10)⟩
noncomputable def ofP (xs:List OpA):List PieceA:=if badE xs=0 then xs.map pOf else []
theorem ofP_ok {xs:List OpA}(h:badE xs=0):ofP xs=xs.map pOf:=if_pos h
theorem ofP_bad {xs:List OpA}(h:badE xs≠0):ofP xs=[]:=if_neg h
theorem kPiece_iface {w:World}{p:PieceA}{v:Value}(h:kPiece.K w p [v]):∃ T u,v=.iface T u:=by
 cases p with
 | ins a t n=>obtain⟨A,c,e,_⟩:=kPiece_ins h; exact⟨_,_,(List.cons.inj e).1⟩
 | emb a t n=>obtain⟨A,c,e,_⟩:=kPiece_emb h; exact⟨_,_,(List.cons.inj e).1⟩
 | ret a n=>obtain⟨A,c,e,_⟩:=kPiece_ret h; exact⟨_,_,(List.cons.inj e).1⟩
 | del n=>have e:=kPiece_del h; exact⟨_,_,(List.cons.inj e).1⟩
theorem map_getD {α β:Type}(f:α→β)(d:α)(d':β){xs:List α}{i:Nat}(h:i<xs.length):(xs.map f).getD i d'=f (xs.getD i d):=by
 rw[List.getD_eq_getElem?_getD,List.getD_eq_getElem?_getD,List.getElem?_map,List.getElem?_eq_getElem h]; rfl
theorem map_take_snoc (xs:List OpA)(i:Nat)(h:i<xs.length):(xs.take i).map pOf++[pOf (xs.getD i op0)]=(xs.take (i+1)).map pOf:=by rw[take_snocD op0 xs i h,List.map_append]; rfl
set_option maxHeartbeats 2000000 in
theorem of_any (A:Option Addr)(c:Nat)(xs:List OpA)(w:World)(hx:kOp.C w A xs.length xs)(hn:xs.length≤100000000)(hz:∀ i,i<xs.length→opSz (xs.getD i op0))(hT:Tabs w)(es:List Addr)(hE:ErrsO w es):Calls Tryz.prog 60 #[.slice A xs.length c] w fun e w'=>∃ A' c',e=.returned (.tuple #[.slice A' (ofP xs).length c',i6 (badI xs:Int),errV es (badE xs)])∧kPiece.R 123 w' w.heap.size (OkFrom w.heap.size) (.slice A' (ofP xs).length c') (ofP xs)∧Below w.heap.size w w':=by
 have hpl:xs.length≤9223372036854775807:=hx.2.1
 refine en Tryz.func60 rfl 32 [(0,aL A xs c)] (fun R_ hR_=>?_)
 refine sg (xe0 3 [(0,aL A xs c)] ?_)
 refine nl (sg (xr0 1 [(5,.slice none 0 0)] [] ?_))
 refine nl (sq (sg (xr0 3 [(10,aL A xs c),(11,i6 (xs.length:Int)),(12,i6 0)] [0] ?_)))
 refine nl (bk (X_loop (ι:=Nat×Option Addr×Nat×List PieceA) (fun⟨i,A5,c5,zs5⟩=>[(5,aL A5 zs5 c5),(10,aL A xs c),(11,i6 (xs.length:Int)),(12,i6 (i:Int))]) (fun⟨i,A5,c5,zs5⟩ wl=>i≤xs.length∧badE (xs.take i)=0∧zs5=(xs.take i).map pOf∧kPiece.R 123 wl w.heap.size (OkFrom w.heap.size) (aL A5 zs5 c5) zs5∧Below w.heap.size w wl) (fun⟨i,A5,c5,zs5⟩=>xs.length-i) (0,none,0,[]) ⟨by omega,rfl,rfl,Kd.R_nil _ _ _ _ _,(Below.refl _ _)⟩ (by kernel_rfl) ?_))
 rintro⟨i,A5,c5,zs5⟩ wl ⟨hi,hb0,he5,hr5,HB⟩
 have hzl:zs5.length=min i xs.length:=by rw[he5,List.length_map,List.length_take]
 refine sq (X_region ?_)
 by_cases c1:(i:Int)<(xs.length:Int)
 ·refine xr1 1 [(13,.eq bT)] [(13,bT)] [] (dT c1) ?_
  refine nl (sq (ct (sk (sq (bk (sg (xr0 1 [(14,nv i)] [13] ?_)))))))
  obtain⟨ad2,B5,c6,a3,c4,l7,C8⟩:=Kd.atOp (Kd.C_below hx HB) (i:=(i:Int)) (by omega) (by omega)
  replace c4:CellsAt wl (ad2.add ((i:Int).toNat*7)) (o7L (xs.getD i op0) (aL B5 (xs.getD i op0).attrs c6)):=c4
  replace l7:(xs.getD i op0).attrs.length≤c6:=l7
  replace C8:kAttr.C wl B5 ((xs.getD i op0).attrs.length) (xs.getD i op0).attrs:=C8
  refine xw 3 [(15,.idx ad2),(16,.load (.agg (o7A (xs.getD i op0) (aL B5 (xs.getD i op0).attrs c6))))] [(7,pw wl.heap.size 0),(16,.agg (o7A (xs.getD i op0) (aL B5 (xs.getD i op0).attrs c6)))] [] (wl.alloc (.cells #[i6 0,s0,i6 0,i6 0,s0,i6 0,.slice none 0 0] 70)) [A=some ad2,(0:Int)≤(i:Int),(i:Int)<(xs.length:Int),la 70 (ad2.add ((i:Int).toNat*7)) (.agg (o7A (xs.getD i op0) (aL B5 (xs.getD i op0).attrs c6))) wl] ⟨a3,(by omega),(by omega),loadsE rfl rfl c4 0 ⟨by kernel_rfl,by kernel_rfl⟩,trivial⟩ ?_
  obtain⟨w9,w13,b10,k11,z12⟩:=new_world wl #[i6 0,s0,i6 0,i6 0,s0,i6 0,.slice none 0 0] 70
  rw[w13]
  refine xr0 1 [(6,nv i)] [14] ?_
  refine xst (.agg (o7A (xs.getD i op0) (aL B5 (xs.getD i op0).attrs c6))) k11 0 (o7A (xs.getD i op0) (aL B5 (xs.getD i op0).attrs c6)) (fun w14 g15 k16 z17=>?_)
  refine nl (sg (xr 1 [(18,.load (.agg (o7A (xs.getD i op0) (aL B5 (xs.getD i op0).attrs c6))))] [(18,.agg (o7A (xs.getD i op0) (aL B5 (xs.getD i op0).attrs c6)))] [7,16] [la 70 (⟨wl.heap.size,0,none⟩) (.agg (o7A (xs.getD i op0) (aL B5 (xs.getD i op0).attrs c6))) w14] ⟨loadsB rfl rfl k16 0 ⟨by kernel_rfl,by kernel_rfl⟩,trivial⟩ ?_))
  refine xc 74 ent74 [.agg (o7A (xs.getD i op0) (aL B5 (xs.getD i op0).attrs c6))] (piece_any (xs.getD i op0) _ _ _ (Kd.C_below C8 (bg b10 g15 (Nat.le_refl _))) (hz i (by omega)) (hT.below (bg (bt HB b10) g15 (HB).size)) es (hE.below (bg (bt HB b10) g15 (HB).size))) ?_
  rintro e w21 ⟨v18,rfl,M19,N20,b22⟩; refine⟨_,rfl,?_⟩
  refine xe0 5 [(5,aL A5 zs5 c5),(6,nv i),(8,v18),(9,errV es (pErr (xs.getD i op0))),(10,aL A xs c),(11,i6 (xs.length:Int)),(12,nv i)] ?_
  refine nl (sq (sg (xr0 1 [(22,errV es (pErr (xs.getD i op0)))] [] ?_)))
  by_cases c23:(pErr (xs.getD i op0))=0
  ·rw[show errV es (pErr (xs.getD i op0))=.nilIface from by rw[c23]; rfl]
   refine xr0 1 [(9,.nilIface),(23,bF)] [22] ?_
   refine nl (cf (sk (X_region ?_)))
   have m26:=M19 c23
   obtain⟨T24,u25,rfl⟩:=kPiece_iface (kPiece.K_of_M m26)
   refine xw 3 [] [(26,aL A5 zs5 c5),(28,.slice (some ⟨w21.heap.size,0,none⟩) 1 1)] [5,6,8,9,23] (w21.alloc (.cells #[.iface T24 u25] 123)) [] trivial ?_
   obtain⟨w27,w31,b28,k29,z30⟩:=new_world w21 #[.iface T24 u25] 123
   rw[w31]
   have B35:Below wl.heap.size wl w21:=(bt (bg b10 g15 (Nat.le_refl _)) b22)
   obtain⟨okp32,M33,hok34⟩:=Kd.M_apart m26 ((bg (bt HB b10) g15 (HB).size)).size (Kd.R_below hr5 B35) (by decide)
   rw[←w31]
   have B44:Below w.heap.size w w21:=(bt (bg (bt HB b10) g15 (HB).size) b22)
   refine XL_append kPiece rfl rfl rfl w.heap.size 123 .nilIface 16 Tryz.underlying82 info123 rfl (by decide) (by omega) zs5 (pOf (xs.getD i op0)) [.iface T24 u25] okp32 (by kernel_rfl) M33 hok34 (Kd.R_below hr5 B35) (B44).size (by first|omega|(simp; omega)) ?_
   intro A36 c37 w38 r39 c40 g41 l42 a43
   refine xr0 1 [(5,aL A36 (zs5++[(pOf (xs.getD i op0))]) c37)] [26,28,29] ?_
   refine nl (rg (xr1 2 [(30,.eq (i6 ((i:Int)+1)))] [(12,i6 ((i:Int)+1))] [] (w6 ((i:Int)+1)) ?_))
   refine nl ?_
   refine⟨(i+1,A36,c37,(zs5++[(pOf (xs.getD i op0))])),by kernel_rfl,?_,?_⟩
   ·exact⟨by omega,badE_succ (by omega) hb0 c23,by rw[he5]; exact map_take_snoc xs i (by omega),r39,(bgo B44 g41 l42 (Nat.le_refl _))⟩
   (try dsimp only); omega
  rw[errV_pos es (pErr (xs.getD i op0)) (Nat.pos_of_ne_zero c23)]
  refine xr0 1 [(9,.iface 208 (.pointer (some (errAt es (pErr (xs.getD i op0)))))),(23,bT)] [22] ?_
  refine nl (ct (sg (xe0 5 [(2,.slice none 0 0),(3,nv i),(4,.iface 208 (.pointer (some (errAt es (pErr (xs.getD i op0))))))] ?_)))
  refine nl (X_ret (rj [.slice none 0 0,i6 (i:Int),.iface 208 (.pointer (some (errAt es (pErr (xs.getD i op0)))))] hR_ ?_))
  have B45:Below w.heap.size w w21:=(bt (bg (bt HB b10) g15 (HB).size) b22)
  have hbe:=badE_stop (xs:=xs) (i:=i) (by omega) hb0 c23
  have hbi:=badI_stop (xs:=xs) (i:=i) (by omega) hb0 c23
  have hof:=ofP_bad (xs:=xs) (by rw[hbe]; exact c23)
  rw[hof,hbi,hbe,errV_pos es _ (Nat.pos_of_ne_zero c23)]
  exact⟨none,0,rfl,Kd.R_nil _ _ _ _ _,B45⟩
 refine xr1 1 [(13,.eq bF)] [(13,bF)] [] (dF c1) ?_
 refine nl (sq (cf (X_exit (sg (xe0 4 [(2,aL A5 zs5 c5),(3,i6 0),(4,.nilIface)] ?_)))))
 refine nl (X_ret (rj [.slice A5 zs5.length c5,i6 0,.nilIface] hR_ ?_))
 have hxi:xs.take i=xs:=List.take_of_length_le (by omega)
 rw[hxi]at hb0 he5
 have hof:ofP xs=zs5:=by rw[ofP_ok hb0,he5]
 rw[hof,badI_none hb0,hb0]
 exact⟨_,_,rfl,hr5,HB⟩
theorem can_last {xs:List OpA}(h:¬(lenP xs).2.2=0):canP xs=false:=(canP_false xs).2 fun hc=>h hc.1
end Go.Proofs.YtlnnjfdonilgmaaGreatDoor

set_option linter.unusedVariables false
set_option linter.unusedSimpArgs false
set_option maxRecDepth 100000
namespace Go.Proofs.YtlnnjfdonilgmaaGreatDoor.U
open Go Go.Lib

def nOf (b:Nat):Nat:=if 240≤b then 4 else if 224≤b then 3 else if 192≤b then 2 else 1
def r0Of (b:Nat):Int:=if 240≤b then (b:Int)-240 else if 224≤b then (b:Int)-224 else if 192≤b then (b:Int)-192 else (b:Int)
def acc (l:List UInt8):Nat→Int
  | 0=>r0Of (g l 0)
  | k+1=>acc l k*64+((g l (k+1)%64:Nat):Int)
theorem acc_step (l:List UInt8){k:Nat}(h:1≤k):acc l k=acc l (k-1)*64+((g l k%64:Nat):Int):=by
  obtain⟨j,rfl⟩:∃ j,k=j+1:=⟨k-1,by omega⟩
  rfl
theorem g_lt (l:List UInt8)(k:Nat):g l k<256:=UInt8.toNat_lt _
theorem r0_bd (b:Nat)(h:b<256):0≤r0Of b∧r0Of b<256:=by
  unfold r0Of
  split
  · omega
  · split
    · omega
    · split<;>omega
theorem acc_bd (l:List UInt8)(k:Nat)(hk:k≤3):0≤acc l k∧acc l k<67108864∧(k≤2→acc l k<1048576):=by
  have h0:=r0_bd (g l 0) (g_lt l 0)
  have e0:acc l 0=r0Of (g l 0):=rfl
  have e1:acc l 1=acc l 0*64+((g l 1%64:Nat):Int):=rfl
  have e2:acc l 2=acc l 1*64+((g l 2%64:Nat):Int):=rfl
  have e3:acc l 3=acc l 2*64+((g l 3%64:Nat):Int):=rfl
  match k,hk with
  | 0,_=>omega
  | 1,_=>omega
  | 2,_=>omega
  | 3,_=>omega
theorem nOf_le (b:Nat):1≤nOf b∧nOf b≤4:=by unfold nOf; split<;>(try split)<;>(try split)<;>omega
theorem g_drop (s:ByteArray)(p k:Nat):g ((bl s).drop p) k=(s.data.toList.getD (p+k) 0).toNat:=by
  unfold g bl
  rw[List.getD_eq_getElem?_getD,List.getD_eq_getElem?_getD,List.getElem?_drop]
def encB (m:Nat):ByteArray:=⟨(enc m).toArray⟩
theorem bl_encB (m:Nat):bl (encB m)=enc m:=by simp[bl,encB]
set_option maxHeartbeats 2000000 in
theorem acc_enc {r:Nat}(hv:vr r)(t:List UInt8):nOf (g (enc r++t) 0)=(enc r).length∧acc (enc r++t) ((enc r).length-1)=(r:Int):=by
  have hv':=hv
  unfold vr at hv'
  by_cases h1:r<128
  · rw[enc_1 h1]
    have e0:g ([UInt8.ofNat r]++t) 0=r:=by simp only[g,List.cons_append,List.getD_cons_zero,UInt8.toNat_ofNat']; omega
    rw[e0]
    refine⟨by unfold nOf; rw[if_neg (by omega),if_neg (by omega),if_neg (by omega)]; rfl,?_⟩
    show r0Of (g ([UInt8.ofNat r]++t) 0)=_
    rw[e0]; unfold r0Of; rw[if_neg (by omega),if_neg (by omega),if_neg (by omega)]
  · by_cases h2:r<2048
    · rw[enc_2 (by omega) h2]
      generalize hl:[UInt8.ofNat (192+r/64),UInt8.ofNat (128+r%64)]++t=l
      have e0:g l 0=192+r/64:=by rw[←hl]; simp only[g,List.cons_append,List.getD_cons_zero,UInt8.toNat_ofNat']; omega
      have e1:g l 1=128+r%64:=by rw[←hl]; simp only[g,List.cons_append,List.getD_cons_zero,List.getD_cons_succ,UInt8.toNat_ofNat']; omega
      refine⟨by rw[e0]; unfold nOf; rw[if_neg (by omega),if_neg (by omega),if_pos (by omega)]; rfl,?_⟩
      show r0Of (g l 0)*64+((g l 1%64:Nat):Int)=_
      rw[e0,e1]; unfold r0Of; rw[if_neg (by omega),if_neg (by omega),if_pos (by omega)]; omega
    · by_cases h3:r<65536
      · rw[enc_3 hv (by omega) h3]
        generalize hl:[UInt8.ofNat (224+r/4096),UInt8.ofNat (128+r/64%64),UInt8.ofNat (128+r%64)]++t=l
        have e0:g l 0=224+r/4096:=by rw[←hl]; simp only[g,List.cons_append,List.getD_cons_zero,UInt8.toNat_ofNat']; omega
        have e1:g l 1=128+r/64%64:=by rw[←hl]; simp only[g,List.cons_append,List.getD_cons_zero,List.getD_cons_succ,UInt8.toNat_ofNat']; omega
        have e2:g l 2=128+r%64:=by rw[←hl]; simp only[g,List.cons_append,List.getD_cons_zero,List.getD_cons_succ,UInt8.toNat_ofNat']; omega
        refine⟨by rw[e0]; unfold nOf; rw[if_neg (by omega),if_pos (by omega)]; rfl,?_⟩
        show (r0Of (g l 0)*64+((g l 1%64:Nat):Int))*64+((g l 2%64:Nat):Int)=_
        rw[e0,e1,e2]; unfold r0Of; rw[if_neg (by omega),if_pos (by omega)]; omega
      · rw[enc_4 hv (by omega)]
        generalize hl:[UInt8.ofNat (240+r/262144),UInt8.ofNat (128+r/4096%64),UInt8.ofNat (128+r/64%64),UInt8.ofNat (128+r%64)]++t=l
        have e0:g l 0=240+r/262144:=by rw[←hl]; simp only[g,List.cons_append,List.getD_cons_zero,UInt8.toNat_ofNat']; omega
        have e1:g l 1=128+r/4096%64:=by rw[←hl]; simp only[g,List.cons_append,List.getD_cons_zero,List.getD_cons_succ,UInt8.toNat_ofNat']; omega
        have e2:g l 2=128+r/64%64:=by rw[←hl]; simp only[g,List.cons_append,List.getD_cons_zero,List.getD_cons_succ,UInt8.toNat_ofNat']; omega
        have e3:g l 3=128+r%64:=by rw[←hl]; simp only[g,List.cons_append,List.getD_cons_zero,List.getD_cons_succ,UInt8.toNat_ofNat']; omega
        refine⟨by rw[e0]; unfold nOf; rw[if_pos (by omega)]; rfl,?_⟩
        show ((r0Of (g l 0)*64+((g l 1%64:Nat):Int))*64+((g l 2%64:Nat):Int))*64+((g l 3%64:Nat):Int)=_
        rw[e0,e1,e2,e3]; unfold r0Of; rw[if_pos (by omega)]; omega

theorem first_eq {l:List UInt8}{rs:List Nat}{t:List UInt8}(h:Brk l rs t)(n:Nat)(hn:n=nOf (g l 0))(r:Int)(hr:r=acc l (n-1))(hle:n≤l.length)(hv:vz r)(he:enc r.toNat=l.take n):headP rs=(r.toNat,n)∧0≤r:=by
  have hst:enc r.toNat <+: l:=by rw[he]; exact List.take_prefix _ _
  match rs,h with
  | [],h=>
    exfalso
    have e:l=t:=by simpa [flat] using h.eq
    exact h.stop ⟨r.toNat,hv.2,e▸hst⟩
  | r'::rs,h=>
    have hp:enc r' <+: l:=by rw[h.eq,flat_cons,List.append_assoc]; exact List.prefix_append _ _
    have e:r.toNat=r':=starts_unique hv.2 (h.ok r' (by simp)) hst hp
    subst e
    refine⟨?_,hv.1⟩
    have:(enc r.toNat).length=n:=by rw[he,List.length_take]; omega
    show (r.toNat,(enc r.toNat).length)=_
    rw[this]
theorem first_none {l:List UInt8}{rs:List Nat}{t:List UInt8}(h:Brk l rs t)(n:Nat)(hn:n=nOf (g l 0))(r:Int)(hr:r=acc l (n-1))(hno:¬(n≤l.length∧vz r∧enc r.toNat=l.take n)):headP rs=(0,0):=by
  match rs,h with
  | [],h=>rfl
  | r'::rs,h=>
    exfalso
    refine hno ?_
    have hv':=h.ok r' (by simp)
    have e:=h.eq
    rw[flat_cons,List.append_assoc]at e
    obtain⟨h1,h2⟩:=acc_enc hv' (flat rs++t)
    rw[←e]at h1 h2
    have hnn:n=(enc r').length:=hn.trans h1
    rw[hnn,h2]at hr
    subst hr
    refine⟨?_,⟨by omega,by rw[Int.toNat_natCast]; exact hv'⟩,?_⟩
    · rw[hnn,e,List.length_append]; omega
    · rw[Int.toNat_natCast,hnn,e,List.take_left]
theorem brk_at (s:ByteArray){done rest:List Nat}(e:sc s=done++rest):Brk ((bl s).drop (flat done).length) rest (tl s) where
  eq:=by
    rw[(brk s).eq,e,flat_append,List.append_assoc,List.drop_append_of_le_length (Nat.le_refl _),List.drop_length,List.nil_append]
  ok:=fun r hr=>sc_ok s r (by rw[e]; exact List.mem_append_right _ hr)
  stop:=(brk s).stop
theorem flat_snoc (done:List Nat)(r:Nat):(flat (done++[r])).length=(flat done).length+(enc r).length:=by
  rw[flat_append,List.length_append]; simp[flat]
theorem flat_done_le (s:ByteArray){done rest:List Nat}(e:sc s=done++rest):(flat done).length≤s.size:=by
  have h:=brkAt_le s
  unfold brkAt at h
  rw[e,flat_append,List.length_append]at h
  omega
theorem done_end (s:ByteArray){done rest:List Nat}(e:sc s=done++rest)(h:¬(flat done).length<s.size):rest=[]:=by
  have h2:=brkAt_le s
  unfold brkAt at h2
  rw[e,flat_append,List.length_append]at h2
  have h3:=flat_le rest
  exact List.length_eq_zero_iff.1 (by omega)
theorem headP_pos (r:Nat)(rs:List Nat):1≤(headP (r::rs)).2:=by
  have h8:headP (r::rs)=(r,(enc r).length):=rfl
  rw[h8]
  simp only
  exact(enc_len r).1
theorem headP_zero {rs:List Nat}(h:(headP rs).2=0):rs=[]:=by
  cases hr:rs with
  | nil=>rfl
  | cons r rs'=>
    rw[hr]at h
    have h1:=headP_pos r rs'
    rw[h]at h1
    exact absurd h1 (by decide)
noncomputable def scz (s:ByteArray):List Int:=(sc s).map fun(r:Nat)=>(r:Int)
end Go.Proofs.YtlnnjfdonilgmaaGreatDoor.U
