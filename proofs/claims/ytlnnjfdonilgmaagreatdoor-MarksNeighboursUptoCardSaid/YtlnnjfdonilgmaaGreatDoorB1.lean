import Derived.Test.YtlnnjfdonilgmaaGreatDoorA2
import Derived.Test.YtlnnjfdonilgmaaGreatDoorUtf3
import Derived.Test.YtlnnjfdonilgmaaGreatDoorChg
import Derived.Test.YtlnnjfdonilgmaaGreatDoorMap
import Derived.Test.YtlnnjfdonilgmaaGreatDoorAn
/- What operations are worth: their errors, lengths, canonical lists. No condition. -/
set_option linter.unusedVariables false
set_option linter.unusedSimpArgs false
set_option maxRecDepth 100000
namespace Go.Proofs.YtlnnjfdonilgmaaGreatDoor
open Go Go.RowKit Go.Proofs.YtlnnjfdonilgmaaGreatDoorW.PrintWords RX

abbrev Pl :=Int×Int×ByteArray
def pl0 :Pl:=(0,0,⟨#[]⟩)
def hasP (o:OpA):Bool:=
  if o.kind=1 then decide ((o.vk,o.vn,o.vt)=pl0)&&decide (o.count=0)
  else if o.kind=2 then decide (o.count=0)
  else if o.kind=3 then decide ((o.vk,o.vn,o.vt)=pl0)&&decide (o.text=⟨#[]⟩)
  else if o.kind=4 then decide ((o.vk,o.vn,o.vt)=pl0)&&(decide (o.text=⟨#[]⟩)&&decide (o.attrs.length=0))
  else false
def refuseP (o:OpA):Nat:=
  if o.kind≠1∧o.kind≠2 then 5
  else if o.count≠0 then 9
  else if o.kind=1∧(o.text=⟨#[]⟩∨(o.vk,o.vn,o.vt)≠pl0)then 9
  else if o.kind=2∧(o.text=⟨#[]⟩∨64<o.text.size)then 6
  else if (uchk o.text).2=false then 1
  else if o.kind=2∧plainErr o.vk o.vn o.vt≠0 then plainErr o.vk o.vn o.vt
  else chkA false o.attrs
def pErr (o:OpA):Nat:=
  if hasP o=false then 9
  else if o.kind=1∨o.kind=2 then refuseP o
  else if o.count<1 then 9
  else if 1099511627776<o.count then 11
  else if o.kind=4 then 0
  else chkA true o.attrs
noncomputable def pOf (o:OpA):PieceA:=
  if o.kind=1 then .ins o.attrs o.text ((U.sc o.text).length:Int)
  else if o.kind=2 then .emb o.attrs o.text o.val
  else if o.kind=3 then .ret o.attrs o.count
  else .del o.count
noncomputable def opLen (o:OpA):Int:=if o.kind=1 then ((U.sc o.text).length:Int)else if o.kind=2 then 1 else o.count
noncomputable def opB (o:OpA):Int:=if o.kind=3∨o.kind=4 then opLen o else 0
noncomputable def opR (o:OpA):Int:=if o.kind=4 then 0 else opLen o
def sumI (f:OpA→Int):List OpA→Int
  | []=>0
  | o::r=>f o+sumI f r
noncomputable abbrev sB (xs:List OpA):Int:=sumI opB xs
noncomputable abbrev sR (xs:List OpA):Int:=sumI opR xs
def badE :List OpA→Nat
  | []=>0
  | o::r=>if pErr o≠0 then pErr o else badE r
def badI :List OpA→Nat
  | []=>0
  | o::r=>if pErr o≠0 then 0 else if badE r≠0 then badI r+1 else 0
noncomputable def lenP (xs:List OpA):Int×Int×Nat:=
  if badE xs≠0 then (0,0,badE xs)else if 1099511627776<sB xs∨1099511627776<sR xs then (0,0,11)else (sB xs,sR xs,0)
def fitsP (a b:OpA):Bool:=if a.kind=4 then decide (b.kind=3)else decide (a.kind≠b.kind∨a.kind=2∨a.attrs≠b.attrs)
def plainR (o:OpA):Prop:=o.kind=3∧o.attrs.length=0
def Chain (xs:List OpA):Prop:=∀ i,i+1<xs.length→fitsP (xs.getD i op0) (xs.getD (i+1) op0)=true
def Can (xs:List OpA):Prop:=(lenP xs).2.2=0∧Chain xs∧(xs.length=0∨¬plainR (xs.getD (xs.length-1) op0))
noncomputable def canP (xs:List OpA):Bool:=@decide (Can xs) (Classical.propDecidable _)
theorem canP_iff (xs:List OpA):canP xs=true↔Can xs:=by unfold canP; exact @decide_eq_true_iff _ (Classical.propDecidable _)
theorem canP_false (xs:List OpA):canP xs=false↔¬Can xs:=by rw[←canP_iff]; cases canP xs<;>simp

def opSz (o:OpA):Prop:=o.text.size≤50000000∧o.vt.size≤50000000∧o.attrs.length≤1048576∧∀ i,i<o.attrs.length→(o.attrs.getD i at0).1.size≤100000000∧(o.attrs.getD i at0).2.2.2.size≤100000000

theorem kind_of_ok {o:OpA}(h:pErr o=0):o.kind=1∨o.kind=2∨o.kind=3∨o.kind=4:=by
  unfold pErr at h
  by_cases h1:hasP o=false
  · rw[if_pos h1]at h; cases h
  · unfold hasP at h1
    by_cases a1:o.kind=1
    · exact .inl a1
    · by_cases a2:o.kind=2
      · exact .inr (.inl a2)
      · by_cases a3:o.kind=3
        · exact .inr (.inr (.inl a3))
        · by_cases a4:o.kind=4
          · exact .inr (.inr (.inr a4))
          · rw[if_neg a1,if_neg a2,if_neg a3,if_neg a4]at h1; exact absurd rfl h1
theorem count_of_ok {o:OpA}(h:pErr o=0)(hk:o.kind=3∨o.kind=4):1≤o.count∧o.count≤1099511627776:=by
  unfold pErr at h
  by_cases h1:hasP o=false
  · rw[if_pos h1]at h; cases h
  · rw[if_neg h1,if_neg (by omega)]at h
    by_cases h2:o.count<1
    · rw[if_pos h2]at h; cases h
    · rw[if_neg h2]at h
      by_cases h3:1099511627776<o.count
      · rw[if_pos h3]at h; cases h
      · omega
theorem opLen_ok {o:OpA}(h:pErr o=0):0≤opLen o:=by
  unfold opLen
  split
  · omega
  · split
    · omega
    · have:=kind_of_ok h; have:=count_of_ok h (by omega); omega
theorem opB_ok {o:OpA}(h:pErr o=0):0≤opB o:=by
  unfold opB; split
  · exact opLen_ok h
  · omega
theorem opR_ok {o:OpA}(h:pErr o=0):0≤opR o:=by
  unfold opR; split
  · omega
  · exact opLen_ok h
theorem pOf_ins {o:OpA}(h:o.kind=1):pOf o=.ins o.attrs o.text ((U.sc o.text).length:Int):=if_pos h
theorem pOf_emb {o:OpA}(h:o.kind=2):pOf o=.emb o.attrs o.text o.val:=by unfold pOf; rw[if_neg (by omega),if_pos h]
theorem pOf_ret {o:OpA}(h:o.kind=3):pOf o=.ret o.attrs o.count:=by unfold pOf; rw[if_neg (by omega),if_neg (by omega),if_pos h]
theorem pOf_del {o:OpA}(h:o.kind=4):pOf o=.del o.count:=by unfold pOf; rw[if_neg (by omega),if_neg (by omega),if_neg (by omega)]

theorem take_snocD {α:Type}(d:α):∀ (xs:List α) (i:Nat),i<xs.length→xs.take (i+1)=xs.take i++[xs.getD i d]:=by
  intro xs i hi
  rw[List.take_add_one,List.getElem?_eq_getElem hi,List.getD_eq_getElem?_getD,List.getElem?_eq_getElem hi]; rfl
theorem drop_consD {α:Type}(d:α)(xs:List α)(i:Nat)(hi:i<xs.length):xs.drop i=xs.getD i d::xs.drop (i+1):=by
  rw[List.drop_eq_getElem_cons hi,List.getD_eq_getElem?_getD,List.getElem?_eq_getElem hi]; rfl
theorem sumI_append (f:OpA→Int):∀ xs ys:List OpA,sumI f (xs++ys)=sumI f xs+sumI f ys
  | [],ys=>by simp[sumI]
  | o::r,ys=>by have:=sumI_append f r ys; simp only[List.cons_append,sumI]; omega
theorem sumI_take (f:OpA→Int)(xs:List OpA)(i:Nat)(hi:i<xs.length):sumI f (xs.take (i+1))=sumI f (xs.take i)+f (xs.getD i op0):=by
  rw[take_snocD op0 xs i hi,sumI_append]; simp[sumI]
theorem badE_append :∀ xs ys:List OpA,badE (xs++ys)=if badE xs≠0 then badE xs else badE ys
  | [],ys=>by simp[badE]
  | o::r,ys=>by
    have ih:=badE_append r ys
    by_cases h:pErr o≠0
    · have e1:badE ((o::r)++ys)=pErr o:=if_pos h
      have e2:badE (o::r)=pErr o:=if_pos h
      rw[e1,e2,if_pos h]
    · have e1:badE ((o::r)++ys)=badE (r++ys):=if_neg h
      have e2:badE (o::r)=badE r:=if_neg h
      rw[e1,e2,ih]
theorem badE_mem :∀ {xs:List OpA},badE xs=0↔∀ o∈xs,pErr o=0
  | []=>by simp[badE]
  | o::r=>by
    simp only[badE,List.mem_cons,forall_eq_or_imp]
    by_cases h:pErr o≠0
    · rw[if_pos h]; exact⟨fun e=>absurd e h,fun⟨e,_⟩=>absurd e h⟩
    · rw[if_neg h,badE_mem]; exact⟨fun e=>⟨by omega,e⟩,fun e=>e.2⟩
theorem getD_mem {α:Type}(d:α){xs:List α}{i:Nat}(hi:i<xs.length):xs.getD i d∈xs:=by
  rw[List.getD_eq_getElem?_getD,List.getElem?_eq_getElem hi]; exact List.getElem_mem hi
theorem badE_getD {xs:List OpA}(h:badE xs=0){i:Nat}(hi:i<xs.length):pErr (xs.getD i op0)=0:=badE_mem.1 h _ (getD_mem op0 hi)
theorem badE_succ {xs:List OpA}{i:Nat}(hi:i<xs.length)(h0:badE (xs.take i)=0)(h1:pErr (xs.getD i op0)=0):badE (xs.take (i+1))=0:=by
  rw[take_snocD op0 xs i hi,badE_append,if_neg (by omega)]; show (if pErr (xs.getD i op0)≠0 then pErr (xs.getD i op0)else 0)=0; rw[if_neg (by omega)]
theorem badE_stop {xs:List OpA}{i:Nat}(hi:i<xs.length)(h0:badE (xs.take i)=0)(h1:pErr (xs.getD i op0)≠0):badE xs=pErr (xs.getD i op0):=by
  have e:xs=xs.take i++(xs.getD i op0::xs.drop (i+1)):=by rw[←drop_consD op0 xs i hi,List.take_append_drop]
  have e2:badE xs=badE (xs.take i++(xs.getD i op0::xs.drop (i+1))):=by rw[←e]
  rw[e2,badE_append,if_neg (by omega)]
  simp only[badE]
  rw[if_pos h1]
theorem badI_append :∀ (xs ys:List OpA),badE xs=0→badE ys≠0→badI (xs++ys)=xs.length+badI ys
  | [],ys,_,_=>by simp
  | o::r,ys,h,h2=>by
    simp only[badE]at h
    by_cases h1:pErr o≠0
    · rw[if_pos h1]at h; exact absurd h h1
    · rw[if_neg h1]at h
      simp only[List.cons_append,badI]
      rw[if_neg h1,if_pos (by rw[badE_append,if_neg (by omega)]; exact h2),badI_append r ys h h2,List.length_cons]
      omega
theorem badI_stop {xs:List OpA}{i:Nat}(hi:i<xs.length)(h0:badE (xs.take i)=0)(h1:pErr (xs.getD i op0)≠0):badI xs=i:=by
  have e:xs=xs.take i++(xs.getD i op0::xs.drop (i+1)):=by rw[←drop_consD op0 xs i hi,List.take_append_drop]
  have e2:badI xs=badI (xs.take i++(xs.getD i op0::xs.drop (i+1))):=by rw[←e]
  rw[e2,badI_append _ _ h0 (by simp only[badE]; rw[if_pos h1]; exact h1)]
  simp only[badI]
  rw[if_pos h1,List.length_take]
  omega
theorem badI_none {xs:List OpA}(h:badE xs=0):badI xs=0:=by
  cases xs with
  | nil=>rfl
  | cons o r=>
    simp only[badE]at h
    simp only[badI]
    by_cases h1:pErr o≠0
    · rw[if_pos h1]
    · rw[if_neg h1]at h ⊢; rw[if_neg (by omega)]
theorem sumI_nonneg {f:OpA→Int}:∀ {xs:List OpA},(∀ o∈xs,0≤f o)→0≤sumI f xs
  | [],_=>Int.le_refl _
  | o::r,h=>by
    have h1:=h o (List.mem_cons_self)
    have h2:=sumI_nonneg (f:=f) (xs:=r) (fun x hx=>h x (List.mem_cons_of_mem _ hx))
    simp only[sumI]; omega
theorem sB_ok {xs:List OpA}(h:badE xs=0):0≤sB xs:=sumI_nonneg fun o ho=>opB_ok (badE_mem.1 h o ho)
theorem sR_ok {xs:List OpA}(h:badE xs=0):0≤sR xs:=sumI_nonneg fun o ho=>opR_ok (badE_mem.1 h o ho)
theorem badE_take {xs:List OpA}(h:badE xs=0)(i:Nat):badE (xs.take i)=0:=badE_mem.2 fun o ho=>badE_mem.1 h o (List.mem_of_mem_take ho)
theorem badE_drop {xs:List OpA}(h:badE xs=0)(i:Nat):badE (xs.drop i)=0:=badE_mem.2 fun o ho=>badE_mem.1 h o (List.mem_of_mem_drop ho)
theorem sum_take_le {xs:List OpA}(h:badE xs=0)(i:Nat):sB (xs.take i)≤sB xs∧sR (xs.take i)≤sR xs:=by
  have e1:sB xs=sB (xs.take i)+sB (xs.drop i):=by rw[sB,sB,sB,←sumI_append,List.take_append_drop]
  have e2:sR xs=sR (xs.take i)+sR (xs.drop i):=by rw[sR,sR,sR,←sumI_append,List.take_append_drop]
  have:=sB_ok (badE_drop h i)
  have:=sR_ok (badE_drop h i)
  omega
theorem lenP_bad {xs:List OpA}(h:badE xs≠0):lenP xs=(0,0,badE xs):=if_pos h
theorem lenP_long {xs:List OpA}(h:badE xs=0)(h2:1099511627776<sB xs∨1099511627776<sR xs):lenP xs=(0,0,11):=by unfold lenP; rw[if_neg (by omega),if_pos h2]
theorem lenP_ok {xs:List OpA}(h:badE xs=0)(h2:¬(1099511627776<sB xs∨1099511627776<sR xs)):lenP xs=(sB xs,sR xs,0):=by unfold lenP; rw[if_neg (by omega),if_neg h2]
theorem lenP_zero {xs:List OpA}(h:(lenP xs).2.2=0):badE xs=0∧¬(1099511627776<sB xs∨1099511627776<sR xs)∧lenP xs=(sB xs,sR xs,0):=by
  by_cases h1:badE xs=0
  · by_cases h2:1099511627776<sB xs∨1099511627776<sR xs
    · rw[lenP_long h1 h2]at h; cases h
    · exact⟨h1,h2,lenP_ok h1 h2⟩
  · rw[lenP_bad h1]at h; exact absurd h h1
theorem ent112 :Ent Tryz.prog 112:=ent_of Tryz.func112 (by kernel_rfl) rfl
theorem ent117 :Ent Tryz.prog 117:=ent_of Tryz.func117 (by kernel_rfl) rfl
theorem ent121 :Ent Tryz.prog 121:=ent_of Tryz.func121 (by kernel_rfl) rfl
theorem info21 :(Tryz.prog.info? 21).map (fun i=>(i.zero,i.size,i.bytes))=some (some (.int .i32 0),1,4):=by kernel_rfl
theorem len_any (s:ByteArray)(w:World)(hs:s.size≤1000000000)(hT:Tabs w)(es:List Addr)(hE:ErrsA w es):Rt 112 #[sT s] w (.tuple #[i6 ((U.lenP s).1:Int),errV es (U.lenP s).2]):=by
 refine en Tryz.func112 rfl 10 [(0,sT s)] (fun R_ hR_=>?_)
 refine sg (xe0 2 [(0,sT s)] ?_)
 refine nl (sq (sg (xr0 1 [(4,sT s)] [] ?_)))
 refine xc 117 ent117 [sT s] (Tryz.utf8_ValidString s _ (by omega) (hT.below (Below.refl _ _))) ?_
 rintro e w1 ⟨rfl,b2⟩; refine⟨_,rfl,?_⟩
 rw[U.valid_utf]
 by_cases c3:decide (U.tl s=[])=true
 ·rw[show (decide (U.tl s=[]):Bool)=true from by simpa using c3]
  refine xr0 1 [(6,bF)] [4,5] ?_
  refine nl (cf (sk (sg (xe0 1 [(8,sT s)] ?_))))
  refine xc 121 ent121 [sT s] (Tryz.utf8_RuneCountInString s _ (by omega)) ?_
  rintro e w4 ⟨rfl,pos5,w6⟩; refine⟨_,rfl,?_⟩
  have b7:Below w1.heap.size w1 w4:=by rw[w6]; exact(Below.refl _ _).alloc (Nat.le_refl _) _
  rw[U.count_utf (of_decide_eq_true (p:=U.tl s=[]) c3)]
  refine xe0 2 [(2,i6 ((U.sc s).length:Int)),(3,.nilIface)] ?_
  refine nl (X_ret (rj [i6 ((U.sc s).length:Int),.nilIface] hR_ ?_))
  rw[show U.lenP s=((U.sc s).length,0)from if_pos (of_decide_eq_true (p:=U.tl s=[]) c3)]
  exact⟨rfl,(bt b2 b7)⟩
 rw[show (decide (U.tl s=[]):Bool)=false from by simpa using c3]
 refine xr0 1 [(6,bT)] [4,5] ?_
 refine nl (ct (sq (X_still (by kernel_rfl) (by kernel_rfl) (fun wd8 b9 h10=>?_))))
 refine xse 3 [(7,.load (.iface 208 (.pointer (some (errAt es 1)))))] [(2,i6 0),(3,.iface 208 (.pointer (some (errAt es 1))))] [la 45 (⟨4,0,none⟩) (.iface 208 (.pointer (some (errAt es 1)))) wd8] ⟨loads1 rfl (((bt b2 b9).cell (World.block_lt_of_cell? _ _ (hE.load 1 4 (by decide) (by decide) rfl))).trans (hE.load 1 4 (by decide) (by decide) rfl)),trivial⟩ ?_
 refine XS_nil ?_
 refine X_ret (rj [i6 0,.iface 208 (.pointer (some (errAt es 1)))] hR_ ?_)
 rw[show U.lenP s=(0,1)from if_neg (of_decide_eq_false (p:=U.tl s=[]) (Bool.eq_false_iff.2 c3))]
 exact⟨rfl,(bt b2 b9)⟩
end Go.Proofs.YtlnnjfdonilgmaaGreatDoor
