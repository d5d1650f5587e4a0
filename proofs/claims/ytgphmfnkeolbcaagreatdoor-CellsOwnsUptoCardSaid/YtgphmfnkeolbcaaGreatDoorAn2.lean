import Derived.Test.YtgphmfnkeolbcaaGreatDoorA2
import Derived.Test.YtgphmfnkeolbcaaGreatDoorUtf3
import Derived.Test.YtgphmfnkeolbcaaGreatDoorSpare
import Derived.Test.YtgphmfnkeolbcaaGreatDoorA1
import Derived.Test.YtgphmfnkeolbcaaGreatDoorAn
/- What operations are worth: their errors, lengths, canonical lists. No condition. -/
set_option linter.unusedVariables false
set_option linter.unusedSimpArgs false
set_option maxRecDepth 100000
namespace Go.Proofs.YtgphmfnkeolbcaaGreatDoor
open Go Go.RowKit Go.Proofs.YtgphmfnkeolbcaaGreatDoorW.PrintWords RX

abbrev Pl :=Int×Int×ByteArray
def pl0 :Pl:=(0,0,⟨#[]⟩)
def hasP (o:OpA):Bool:=
  if o.kind=1 then decide ((o.vk,o.vn,o.vt)=pl0)&&decide (o.count=0)
  else if o.kind=2 then decide (o.count=0)
  else if o.kind=3 then decide ((o.vk,o.vn,o.vt)=pl0)&&decide (o.text=⟨#[]⟩)
  else if o.kind=4 then decide ((o.vk,o.vn,o.vt)=pl0)&&(decide (o.text=⟨#[]⟩)&&decide (o.attrs.length=0))
  else false
def refuseP (o:OpA):Nat:=
  if o.kind≠1∧o.kind≠2 then 5
  else if o.count≠0 then 9
  else if o.kind=1∧(o.text=⟨#[]⟩∨(o.vk,o.vn,o.vt)≠pl0)then 9
  else if o.kind=2∧(o.text=⟨#[]⟩∨64<o.text.size)then 6
  else if (uchk o.text).2=false then 1
  else if o.kind=2∧plainErr o.vk o.vn o.vt≠0 then plainErr o.vk o.vn o.vt
  else chkA false o.attrs
def pErr (o:OpA):Nat:=
  if hasP o=false then 9
  else if o.kind=1∨o.kind=2 then refuseP o
  else if o.count<1 then 9
  else if 1099511627776<o.count then 11
  else if o.kind=4 then 0
  else chkA true o.attrs
noncomputable def pOf (o:OpA):PieceA:=
  if o.kind=1 then .ins o.attrs o.text ((U.sc o.text).length:Int)
  else if o.kind=2 then .emb o.attrs o.text o.val
  else if o.kind=3 then .ret o.attrs o.count
  else .del o.count
noncomputable def opLen (o:OpA):Int:=if o.kind=1 then ((U.sc o.text).length:Int)else if o.kind=2 then 1 else o.count
noncomputable def opB (o:OpA):Int:=if o.kind=3∨o.kind=4 then opLen o else 0
noncomputable def opR (o:OpA):Int:=if o.kind=4 then 0 else opLen o
def sumI (f:OpA→Int):List OpA→Int
  | []=>0
  | o::r=>f o+sumI f r
noncomputable abbrev sB (xs:List OpA):Int:=sumI opB xs
noncomputable abbrev sR (xs:List OpA):Int:=sumI opR xs
def badE :List OpA→Nat
  | []=>0
  | o::r=>if pErr o≠0 then pErr o else badE r
def badI :List OpA→Nat
  | []=>0
  | o::r=>if pErr o≠0 then 0 else if badE r≠0 then badI r+1 else 0
noncomputable def lenP (xs:List OpA):Int×Int×Nat:=
  if badE xs≠0 then (0,0,badE xs)else if 1099511627776<sB xs∨1099511627776<sR xs then (0,0,11)else (sB xs,sR xs,0)
def fitsP (a b:OpA):Bool:=if a.kind=4 then decide (b.kind=3)else decide (a.kind≠b.kind∨a.kind=2∨a.attrs≠b.attrs)
def plainR (o:OpA):Prop:=o.kind=3∧o.attrs.length=0
def Chain (xs:List OpA):Prop:=∀ i,i+1<xs.length→fitsP (xs.getD i op0) (xs.getD (i+1) op0)=true
def Can (xs:List OpA):Prop:=(lenP xs).2.2=0∧Chain xs∧(xs.length=0∨¬plainR (xs.getD (xs.length-1) op0))
def opSz (o:OpA):Prop:=o.text.size≤50000000∧o.vt.size≤50000000∧o.attrs.length≤1048576∧∀ i,i<o.attrs.length→(o.attrs.getD i at0).1.size≤100000000∧(o.attrs.getD i at0).2.2.2.size≤100000000

theorem kind_of_ok {o:OpA}(h:pErr o=0):o.kind=1∨o.kind=2∨o.kind=3∨o.kind=4:=by
  unfold pErr at h
  by_cases h1:hasP o=false
  · rw[if_pos h1]at h; cases h
  · unfold hasP at h1
    by_cases a1:o.kind=1
    · exact .inl a1
    · by_cases a2:o.kind=2
      · exact .inr (.inl a2)
      · by_cases a3:o.kind=3
        · exact .inr (.inr (.inl a3))
        · by_cases a4:o.kind=4
          · exact .inr (.inr (.inr a4))
          · rw[if_neg a1,if_neg a2,if_neg a3,if_neg a4]at h1; exact absurd rfl h1
theorem count_of_ok {o:OpA}(h:pErr o=0)(hk:o.kind=3∨o.kind=4):1≤o.count∧o.count≤1099511627776:=by
  unfold pErr at h
  by_cases h1:hasP o=false
  · rw[if_pos h1]at h; cases h
  · rw[if_neg h1,if_neg (by omega)]at h
    by_cases h2:o.count<1
    · rw[if_pos h2]at h; cases h
    · rw[if_neg h2]at h
      by_cases h3:1099511627776<o.count
      · rw[if_pos h3]at h; cases h
      · omega
theorem opLen_ok {o:OpA}(h:pErr o=0):0≤opLen o:=by
  unfold opLen
  split
  · omega
  · split
    · omega
    · have:=kind_of_ok h; have:=count_of_ok h (by omega); omega
theorem opB_ok {o:OpA}(h:pErr o=0):0≤opB o:=by
  unfold opB; split
  · exact opLen_ok h
  · omega
theorem opR_ok {o:OpA}(h:pErr o=0):0≤opR o:=by
  unfold opR; split
  · omega
  · exact opLen_ok h
theorem pOf_ins {o:OpA}(h:o.kind=1):pOf o=.ins o.attrs o.text ((U.sc o.text).length:Int):=if_pos h
theorem pOf_emb {o:OpA}(h:o.kind=2):pOf o=.emb o.attrs o.text o.val:=by unfold pOf; rw[if_neg (by omega),if_pos h]
theorem pOf_ret {o:OpA}(h:o.kind=3):pOf o=.ret o.attrs o.count:=by unfold pOf; rw[if_neg (by omega),if_neg (by omega),if_pos h]
theorem pOf_del {o:OpA}(h:o.kind=4):pOf o=.del o.count:=by unfold pOf; rw[if_neg (by omega),if_neg (by omega),if_neg (by omega)]

theorem take_snocD {α:Type}(d:α):∀ (xs:List α) (i:Nat),i<xs.length→xs.take (i+1)=xs.take i++[xs.getD i d]:=by
  intro xs i hi
  rw[List.take_add_one,List.getElem?_eq_getElem hi,List.getD_eq_getElem?_getD,List.getElem?_eq_getElem hi]; rfl
theorem drop_consD {α:Type}(d:α)(xs:List α)(i:Nat)(hi:i<xs.length):xs.drop i=xs.getD i d::xs.drop (i+1):=by
  rw[List.drop_eq_getElem_cons hi,List.getD_eq_getElem?_getD,List.getElem?_eq_getElem hi]; rfl
theorem sumI_append (f:OpA→Int):∀ xs ys:List OpA,sumI f (xs++ys)=sumI f xs+sumI f ys
  | [],ys=>by simp[sumI]
  | o::r,ys=>by have:=sumI_append f r ys; simp only[List.cons_append,sumI]; omega
theorem sumI_take (f:OpA→Int)(xs:List OpA)(i:Nat)(hi:i<xs.length):sumI f (xs.take (i+1))=sumI f (xs.take i)+f (xs.getD i op0):=by
  rw[take_snocD op0 xs i hi,sumI_append]; simp[sumI]
theorem badE_append :∀ xs ys:List OpA,badE (xs++ys)=if badE xs≠0 then badE xs else badE ys
  | [],ys=>by simp[badE]
  | o::r,ys=>by
    have ih:=badE_append r ys
    by_cases h:pErr o≠0
    · have e1:badE ((o::r)++ys)=pErr o:=if_pos h
      have e2:badE (o::r)=pErr o:=if_pos h
      rw[e1,e2,if_pos h]
    · have e1:badE ((o::r)++ys)=badE (r++ys):=if_neg h
      have e2:badE (o::r)=badE r:=if_neg h
      rw[e1,e2,ih]
theorem badE_mem :∀ {xs:List OpA},badE xs=0↔∀ o∈xs,pErr o=0
  | []=>by simp[badE]
  | o::r=>by
    simp only[badE,List.mem_cons,forall_eq_or_imp]
    by_cases h:pErr o≠0
    · rw[if_pos h]; exact⟨fun e=>absurd e h,fun⟨e,_⟩=>absurd e h⟩
    · rw[if_neg h,badE_mem]; exact⟨fun e=>⟨by omega,e⟩,fun e=>e.2⟩
theorem getD_mem {α:Type}(d:α){xs:List α}{i:Nat}(hi:i<xs.length):xs.getD i d∈xs:=by
  rw[List.getD_eq_getElem?_getD,List.getElem?_eq_getElem hi]; exact List.getElem_mem hi
theorem badE_getD {xs:List OpA}(h:badE xs=0){i:Nat}(hi:i<xs.length):pErr (xs.getD i op0)=0:=badE_mem.1 h _ (getD_mem op0 hi)
theorem badE_succ {xs:List OpA}{i:Nat}(hi:i<xs.length)(h0:badE (xs.take i)=0)(h1:pErr (xs.getD i op0)=0):badE (xs.take (i+1))=0:=by
  rw[take_snocD op0 xs i hi,badE_append,if_neg (by omega)]; show (if pErr (xs.getD i op0)≠0 then pErr (xs.getD i op0)else 0)=0; rw[if_neg (by omega)]
theorem badE_stop {xs:List OpA}{i:Nat}(hi:i<xs.length)(h0:badE (xs.take i)=0)(h1:pErr (xs.getD i op0)≠0):badE xs=pErr (xs.getD i op0):=by
  have e:xs=xs.take i++(xs.getD i op0::xs.drop (i+1)):=by rw[←drop_consD op0 xs i hi,List.take_append_drop]
  have e2:badE xs=badE (xs.take i++(xs.getD i op0::xs.drop (i+1))):=by rw[←e]
  rw[e2,badE_append,if_neg (by omega)]
  simp only[badE]
  rw[if_pos h1]
theorem badI_append :∀ (xs ys:List OpA),badE xs=0→badE ys≠0→badI (xs++ys)=xs.length+badI ys
  | [],ys,_,_=>by simp
  | o::r,ys,h,h2=>by
    simp only[badE]at h
    by_cases h1:pErr o≠0
    · rw[if_pos h1]at h; exact absurd h h1
    · rw[if_neg h1]at h
      simp only[List.cons_append,badI]
      rw[if_neg h1,if_pos (by rw[badE_append,if_neg (by omega)]; exact h2),badI_append r ys h h2,List.length_cons]
      omega
theorem badI_stop {xs:List OpA}{i:Nat}(hi:i<xs.length)(h0:badE (xs.take i)=0)(h1:pErr (xs.getD i op0)≠0):badI xs=i:=by
  have e:xs=xs.take i++(xs.getD i op0::xs.drop (i+1)):=by rw[←drop_consD op0 xs i hi,List.take_append_drop]
  have e2:badI xs=badI (xs.take i++(xs.getD i op0::xs.drop (i+1))):=by rw[←e]
  rw[e2,badI_append _ _ h0 (by simp only[badE]; rw[if_pos h1]; exact h1)]
  simp only[badI]
  rw[if_pos h1,List.length_take]
  omega
theorem badI_none {xs:List OpA}(h:badE xs=0):badI xs=0:=by
  cases xs with
  | nil=>rfl
  | cons o r=>
    simp only[badE]at h
    simp only[badI]
    by_cases h1:pErr o≠0
    · rw[if_pos h1]
    · rw[if_neg h1]at h ⊢; rw[if_neg (by omega)]
theorem sumI_nonneg {f:OpA→Int}:∀ {xs:List OpA},(∀ o∈xs,0≤f o)→0≤sumI f xs
  | [],_=>Int.le_refl _
  | o::r,h=>by
    have h1:=h o (List.mem_cons_self)
    have h2:=sumI_nonneg (f:=f) (xs:=r) (fun x hx=>h x (List.mem_cons_of_mem _ hx))
    simp only[sumI]; omega
theorem sB_ok {xs:List OpA}(h:badE xs=0):0≤sB xs:=sumI_nonneg fun o ho=>opB_ok (badE_mem.1 h o ho)
theorem sR_ok {xs:List OpA}(h:badE xs=0):0≤sR xs:=sumI_nonneg fun o ho=>opR_ok (badE_mem.1 h o ho)
theorem badE_drop {xs:List OpA}(h:badE xs=0)(i:Nat):badE (xs.drop i)=0:=badE_mem.2 fun o ho=>badE_mem.1 h o (List.mem_of_mem_drop ho)
theorem sum_take_le {xs:List OpA}(h:badE xs=0)(i:Nat):sB (xs.take i)≤sB xs∧sR (xs.take i)≤sR xs:=by
  have e1:sB xs=sB (xs.take i)+sB (xs.drop i):=by rw[sB,sB,sB,←sumI_append,List.take_append_drop]
  have e2:sR xs=sR (xs.take i)+sR (xs.drop i):=by rw[sR,sR,sR,←sumI_append,List.take_append_drop]
  have:=sB_ok (badE_drop h i)
  have:=sR_ok (badE_drop h i)
  omega
theorem lenP_ok {xs:List OpA}(h:badE xs=0)(h2:¬(1099511627776<sB xs∨1099511627776<sR xs)):lenP xs=(sB xs,sR xs,0):=by unfold lenP; rw[if_neg (by omega),if_neg h2]
theorem ent224 :Ent Tryz.prog 224:=ent_of Tryz.func224 (by kernel_rfl) rfl
theorem ent147 :Ent Tryz.prog 147:=ent_of Tryz.func147 (by kernel_rfl) rfl
theorem ent152 :Ent Tryz.prog 152:=ent_of Tryz.func152 (by kernel_rfl) rfl
theorem ent154 :Ent Tryz.prog 154:=ent_of Tryz.func154 (by kernel_rfl) rfl
theorem ent229 :Ent Tryz.prog 229:=ent_of Tryz.func229 (by kernel_rfl) rfl
theorem ent194 :Ent Tryz.prog 194:=ent_of Tryz.func194 (by kernel_rfl) rfl
theorem ent190 :Ent Tryz.prog 190:=ent_of Tryz.func190 (by kernel_rfl) rfl
theorem info21 :(Tryz.prog.info? 21).map (fun i=>(i.zero,i.size,i.bytes))=some (some (.int .i32 0),1,4):=by kernel_rfl
theorem len_any (s:ByteArray)(w:World)(hs:s.size≤1000000000)(hT:Tabs w)(es:List Addr)(hE:ErrsA w es):Rt 224 #[sT s] w (.tuple #[i6 ((U.lenP s).1:Int),errV es (U.lenP s).2]):=by
 refine en Tryz.func224 rfl 10 [(0,sT s)] (fun R_ hR_=>?_)
 refine sg (xe0 2 [(0,sT s)] ?_)
 refine nl (sq (sg (xr0 1 [(4,sT s)] [] ?_)))
 refine xc 154 ent154 [sT s] (Tryz.utf8_ValidString s _ (by omega) (hT.below (Below.refl _ _))) ?_
 rintro e w1 ⟨rfl,b2⟩; refine⟨_,rfl,?_⟩
 rw[U.valid_utf]
 by_cases c3:decide (U.tl s=[])=true
 ·rw[show (decide (U.tl s=[]):Bool)=true from by simpa using c3]
  refine xr0 1 [(6,bF)] [4,5] ?_
  refine nl (cf (sk (sg (xe0 1 [(8,sT s)] ?_))))
  refine xc 229 ent229 [sT s] (Tryz.utf8_RuneCountInString s _ (by omega)) ?_
  rintro e w4 ⟨rfl,pos5,hw6⟩; refine⟨_,rfl,?_⟩
  have b7:Below w1.heap.size w1 w4:=by rw[hw6]; exact(Below.refl _ _).alloc (Nat.le_refl _) _
  rw[U.count_utf (of_decide_eq_true (p:=U.tl s=[]) c3)]
  refine xe0 2 [(2,i6 ((U.sc s).length:Int)),(3,.nilIface)] ?_
  refine nl (X_ret (rj [i6 ((U.sc s).length:Int),.nilIface] hR_ ?_))
  rw[show U.lenP s=((U.sc s).length,0)from if_pos (of_decide_eq_true (p:=U.tl s=[]) c3)]
  exact⟨rfl,(bt b2 b7)⟩
 rw[show (decide (U.tl s=[]):Bool)=false from by simpa using c3]
 refine xr0 1 [(6,bT)] [4,5] ?_
 refine nl (ct (sq (X_still (by kernel_rfl) (by kernel_rfl) (fun wd8 b9 h10=>?_))))
 refine xse 3 [(7,.load (ev es 1))] [(2,i6 0),(3,ev es 1)] [la 35 (⟨6,0,none⟩) (ev es 1) wd8] ⟨loads1 rfl (((bt b2 b9).cell (World.block_lt_of_cell? _ _ (hE.load 1 6 (by decide) (by decide) rfl))).trans (hE.load 1 6 (by decide) (by decide) rfl)),trivial⟩ ?_
 refine XS_nil ?_
 refine X_ret (rj [i6 0,ev es 1] hR_ ?_)
 rw[show U.lenP s=(0,1)from if_neg (of_decide_eq_false (p:=U.tl s=[]) (Bool.eq_false_iff.2 c3))]
 exact⟨rfl,(bt b2 b9)⟩
theorem widthP_pos {k:Nat}(hv:U.vr k):U.widthP (k:Int)=(U.enc k).length:=by
 unfold U.widthP
 rw[if_pos (show U.vz (k:Int)from⟨by omega,by rw[Int.toNat_natCast]; exact hv⟩),Int.toNat_natCast]
theorem widthP_neg {r:Int}(h:¬U.vz r):U.widthP r=0:=if_neg h
theorem width_eq (r:Int):max (Lib.runeLen r) 0=(U.widthP r:Int):=by
 by_cases h0:r<0
 ·rw[widthP_neg (fun h=>by have:=h.1; omega)]
  unfold Lib.runeLen
  rw[if_pos h0]; rfl
 obtain⟨k,rfl⟩:=Int.eq_ofNat_of_zero_le (show 0≤r by omega)
 by_cases hv:U.vr k
 ·rw[widthP_pos hv]
  have hv':=hv
  unfold U.vr at hv'
  unfold Lib.runeLen
  by_cases h1:k<128
  ·rw[if_neg h0,if_pos (by omega),U.enc_1 h1]; rfl
  by_cases h2:k<2048
  ·rw[if_neg h0,if_neg (by omega),if_pos (by omega),U.enc_2 (by omega) h2]; rfl
  by_cases h3:k<65536
  ·rw[if_neg h0,if_neg (by omega),if_neg (by omega),if_neg (by omega),if_pos (by omega),U.enc_3 hv (by omega) h3]; rfl
  rw[if_neg h0,if_neg (by omega),if_neg (by omega),if_neg (by omega),if_neg (by omega),if_pos (by omega),U.enc_4 hv (by omega)]; rfl
 rw[widthP_neg (fun h=>hv (by have:=h.2; rwa [Int.toNat_natCast]at this))]
 unfold U.vr at hv
 unfold Lib.runeLen
 rw[if_neg h0,if_neg (by omega),if_neg (by omega)]
 by_cases h4:55296≤(k:Int)∧(k:Int)≤57343
 ·rw[if_pos h4]; rfl
 rw[if_neg h4,if_neg (by omega),if_neg (by omega)]; rfl
theorem width_any (r:Int)(w:World):Rt 147 #[.int .i32 r] w (i6 (U.widthP r:Int)):=by
 refine en Tryz.func147 rfl 6 [(0,.int .i32 r)] (fun R_ hR_=>?_)
 refine sg (xe0 1 [(0,.int .i32 r)] ?_)
 refine nl (sg (xe0 1 [(3,.int .i32 r)] ?_))
 refine xc 190 ent190 [.int .i32 r] (Tryz.utf8_RuneLen r _) ?_
 rintro e w1 ⟨rfl,hw_⟩; refine⟨_,rfl,?_⟩; rw[hw_]
 refine xe 2 [(5,.eq (i6 (max (Lib.runeLen r) 0)))] [(2,i6 (max (Lib.runeLen r) 0))] [i6 (if 0>Lib.runeLen r then 0 else Lib.runeLen r)=i6 (max (Lib.runeLen r) 0)] ⟨congrArg (Value.int .i64) (max_eq _ _),trivial⟩ ?_
 refine nl (X_ret (rj [i6 (max (Lib.runeLen r) 0)] hR_ ?_))
 rw[width_eq]
 exact⟨rfl,(Below.refl _ _)⟩
theorem vrune (r:Int):Lib.validRune r=decide (U.vz r):=by
 unfold Lib.validRune
 rw[Bool.eq_iff_iff,decide_eq_true_iff,decide_eq_true_iff]
 unfold U.vz U.vr
 omega
theorem text_any (A:Option Addr)(c:Nat)(xs:List Int)(w:World)(hx:(Kd.int .i32).C w A xs.length xs)(es:List Addr)(hE:ErrsA w es):Rt 152 #[.slice A xs.length c] w (.tuple #[sT (U.textP xs).1,errV es (U.textP xs).2]):=by
 have hpl:xs.length≤9223372036854775807:=hx.2.1
 refine en Tryz.func152 rfl 19 [(0,aL A xs c)] (fun R_ hR_=>?_)
 refine sg (xe0 2 [(0,aL A xs c)] ?_)
 refine nl (sq (sg (xr0 3 [(6,aL A xs c),(7,i6 (xs.length:Int)),(8,i6 0)] [] ?_)))
 refine nl (bk (X_loop (ι:=Nat) (fun i=>[(0,aL A xs c),(6,aL A xs c),(7,i6 (xs.length:Int)),(8,i6 (i:Int))]) (fun i wl=>i≤xs.length∧(∀ q:Nat,q<i→U.vz (rd xs (q:Int)))∧Below w.heap.size w wl) (fun i=>xs.length-i) 0 ⟨by omega,fun q hq=>by omega,(Below.refl _ _)⟩ (by kernel_rfl) ?_))
 rintro i wl ⟨hi,hq0,HB⟩
 refine sq (X_region ?_)
 by_cases c1:(i:Int)<(xs.length:Int)
 ·refine xr1 1 [(9,.eq bT)] [(9,bT)] [] (dT c1) ?_
  refine nl (sq (ct (sk (sq (bk (sq (X_region ?_)))))))
  obtain⟨ad2,a3,c4⟩:=Kd.atI (Kd.C_below hx HB) (i:=(i:Int)) (by omega) (by omega)
  refine xr 3 [(10,.idx ad2),(11,.load (.int .i32 (rd xs (i:Int))))] [(5,.int .i32 (rd xs (i:Int)))] [9] [A=some ad2,(0:Int)≤(i:Int),(i:Int)<(xs.length:Int),la 21 (ad2.add ((i:Int).toNat*1)) (.int .i32 (rd xs (i:Int))) wl] ⟨a3,(by omega),(by omega),loads1 rfl (elem_cell c4 0 _ rfl),trivial⟩ ?_
  refine nl (sg (xr0 1 [(12,.int .i32 (rd xs (i:Int)))] [5] ?_))
  refine xc 194 ent194 [.int .i32 (rd xs (i:Int))] (Tryz.utf8_ValidRune (rd xs (i:Int)) _) ?_
  rintro e w5 ⟨rfl,hw_⟩; refine⟨_,rfl,?_⟩; rw[hw_]
  rw[vrune]
  by_cases c6:decide (U.vz (rd xs (i:Int)))=true
  ·rw[show (decide (U.vz (rd xs (i:Int))):Bool)=true from by simpa using c6]
   refine xr0 1 [(14,bF)] [12,13] ?_
   refine nl (cf (sk (rg (xr1 2 [(16,.eq (i6 ((i:Int)+1)))] [(8,i6 ((i:Int)+1))] [14] (w6 ((i:Int)+1)) ?_))))
   refine nl ?_
   refine⟨(i+1),by kernel_rfl,?_,?_⟩
   ·exact⟨by omega,fun q hq=>by by_cases e:q=i; (· subst e; exact of_decide_eq_true c6); (· exact hq0 q (by omega)),HB⟩
   (try dsimp only); omega
  rw[show (decide (U.vz (rd xs (i:Int))):Bool)=false from by simpa using c6]
  refine xr0 1 [(14,bT)] [12,13] ?_
  refine nl (ct (sq (X_still (by kernel_rfl) (by kernel_rfl) (fun wd7 b8 h9=>?_))))
  refine xse 3 [(15,.load (ev es 1))] [(2,sT (⟨#[]⟩:ByteArray)),(3,ev es 1)] [la 35 (⟨6,0,none⟩) (ev es 1) wd7] ⟨loads1 rfl (((bt HB b8).cell (World.block_lt_of_cell? _ _ (hE.load 1 6 (by decide) (by decide) rfl))).trans (hE.load 1 6 (by decide) (by decide) rfl)),trivial⟩ ?_
  refine XS_nil ?_
  refine X_ret (rj [sT (⟨#[]⟩:ByteArray),ev es 1] hR_ ?_)
  rw[show U.textP xs=(⟨#[]⟩,1)from if_neg (fun h=>of_decide_eq_false (Bool.eq_false_iff.2 c6) (h _ (by unfold rd; rw[Int.toNat_natCast,List.getD_eq_getElem?_getD,List.getElem?_eq_getElem (by omega)]; exact List.getElem_mem (by omega))))]
  exact⟨rfl,(bt HB b8)⟩
 refine xr1 1 [(9,.eq bF)] [(9,bF)] [] (dF c1) ?_
 refine nl (sq (cf (X_exit (sg (xe0 1 [(17,aL A xs c)] ?_)))))
 refine xe 3 [(18,.as (sT (runesBytes xs)))] [(2,sT (runesBytes xs)),(3,.nilIface)] [RunsAs Tryz.prog [(17,aL A xs c)] (Go.Op.convert 150 9 (Go.Operand.tmp 17)) 9 (sT (runesBytes xs)) wl] ⟨runs_conv rfl (conv_runesC xs Tryz.underlying150 Tryz.underlying21 Tryz.underlying9 (Kd.C_below hx HB)),trivial⟩ ?_
 refine nl (X_ret (rj [sT (runesBytes xs),.nilIface] hR_ ?_))
 rw[show U.textP xs=(runesBytes xs,0)from if_pos (fun r hr=>by obtain⟨q,hq,rfl⟩:=List.mem_iff_getElem.1 hr; have:=hq0 q (by omega); unfold rd at this; rwa [Int.toNat_natCast,List.getD_eq_getElem?_getD,List.getElem?_eq_getElem hq]at this)]
 exact⟨rfl,HB⟩
end Go.Proofs.YtgphmfnkeolbcaaGreatDoor

set_option linter.unusedVariables false
set_option linter.unusedSimpArgs false
namespace Go.Proofs.YtgphmfnkeolbcaaGreatDoor.RX
open Go Go.RowKit Go.Proofs.YtgphmfnkeolbcaaGreatDoorW.PrintLast

def XB (P:Program)(N:Nat)(ops:Array Oper)(wd:World)(ds:List Nat)(fuel:Nat)(listed:Array Bool)(qs:QS)(l:Slots)(w:World):Prop:=
  ∀ a,Fr N l a→wpAnyLast P .any ops (lift N qs) (fun w'=>Below wd.heap.size wd w') ds fuel listed a w

theorem XB_gP {P:Program}{N:Nat}{ops:Array Oper}{wd w0:World}{ds:List Nat}{qs:QS}{ov:List (Nat×Ov)}{fuel:Nat}(hq:Deaf qs)(hS:Below wd.heap.size wd w0):∀ (ids:List Nat) (listed:Array Bool) (l:Slots) (vs:List Value) (listed':Array Bool) (l':Slots) (cs:World→List Prop),
    (∀ w,gA P N ops ov ds false w ids listed l=some (vs,listed',l',List.replicate ids.length w,cs w))→(∀ w,Below wd.heap.size wd w→allP (cs w))→XB P N ops wd ds fuel listed' qs l' w0→XB P N ops wd ds (ids.length+fuel) listed qs l w0:=by
  intro ids
  induction ids with
  | nil=>
    intro listed l vs listed' l' cs h _ hn
    have h:=h w0
    simp only[gA,Option.some.injEq,Prod.mk.injEq]at h
    obtain⟨_,rfl,rfl,_⟩:=h
    simpa using hn
  | cons i r ih=>
    intro listed l vs listed' l' cs h hc hn a ha
    have h0:=h w0
    simp only[gA]at h0
    split at h0
    · cases h0
    · rename_i o ho
      cases hb:(o.dst.isSome&&okD N o.dst&&Region.noSelect ops&&Region.free .any ops listed i&&(Region.ready .any ops listed).contains i&&Region.closedB .any ops listed&&(false||Region.lastB .any ops listed ds i))with
      | false=>rw[hb]at h0; cases h0
      | true=>
        rw[hb]at h0
        simp only[cond_true]at h0
        have hb':=hb
        simp only[Bool.and_eq_true,Bool.false_or]at hb'
        obtain⟨⟨⟨⟨⟨⟨hsome,hd⟩,hs⟩,hf⟩,hr⟩,hcl⟩,hla⟩:=hb'
        rw[show (i::r).length+fuel=(r.length+fuel)+1 from by simp; omega]
        split at h0
        · rename_i hg
          split at h0
          · rename_i v w1 cs1 h1
            split at h0
            · rename_i vs2 ls l2 ws cs2 h2
              simp only[Option.some.injEq,Prod.mk.injEq,List.length_cons,List.replicate_succ,List.cons.injEq]at h0
              obtain⟨rfl,rfl,rfl,_,_⟩:=h0
              have hall:∀ w,∃ c1 c2,gx1 P l w o (ovOf ov o.dst)=some (v,w,c1)∧gA P N ops ov ds false w r (listed.setIfInBounds i true) (putS l o.dst v)=some (vs2,ls,l2,List.replicate r.length w,c2)∧cs w=c1++c2:=by
                intro w
                have hw:=h w
                simp only[gA,ho,hb,cond_true,hg]at hw
                split at hw
                · rename_i v' w' c1 e1
                  split at hw
                  · rename_i vs' ls' l2' ws' c2 e2
                    simp only[Option.some.injEq,Prod.mk.injEq,List.length_cons,List.replicate_succ,List.cons.injEq]at hw
                    obtain⟨⟨rfl,rfl⟩,rfl,rfl,⟨rfl,rfl⟩,hcw⟩:=hw
                    exact⟨c1,c2,e1,e2,hcw.symm⟩
                  · cases hw
                · cases hw
              refine wpAnyLast_take (v:=v) ho hs hf hr hcl hla (deaf_lift hq _ _) (.inl ⟨gd_ok ha hg,fun w hw=>?_⟩) hS ?_
              · obtain⟨c1,c2,e1,_,ec⟩:=hall w
                have hcw:=hc w hw
                rw[ec]at hcw
                rcases gx1_ok e1 (allP_append hcw).1 ha with hrun|⟨_,_,hn⟩
                · exact hrun
                · rw[hn]at hsome; cases hsome
              · exact ih _ _ _ _ _ (fun w=>((gA P N ops ov ds false w r (listed.setIfInBounds i true) (putS l o.dst v)).map (·.2.2.2.2)).getD []) (fun w=>by
                  obtain⟨c1,c2,_,e2,_⟩:=hall w
                  rw[e2]; rfl) (fun w hw=>by
                  obtain⟨c1,c2,_,e2,ec⟩:=hall w
                  rw[e2]
                  have hcw:=hc w hw
                  rw[ec]at hcw
                  exact(allP_append hcw).2) hn _ (ha.putS hd v)
            · cases h0
          · cases h0
        · rename_i hg
          split at h0
          · rename_i vs2 ls l2 ws cs2 h2
            simp only[Option.some.injEq,Prod.mk.injEq,List.length_cons,List.replicate_succ,List.cons.injEq]at h0
            obtain⟨rfl,rfl,rfl,_,_⟩:=h0
            have hall:∀ w,gA P N ops ov ds false w r (listed.setIfInBounds i true) (putS l o.dst undef)=some (vs2,ls,l2,List.replicate r.length w,cs w):=by
              intro w
              have hw:=h w
              simp only[gA,ho,hb,cond_true,hg]at hw
              split at hw
              · rename_i vs' ls' l2' ws' c2 e2
                simp only[Option.some.injEq,Prod.mk.injEq,List.length_cons,List.replicate_succ,List.cons.injEq]at hw
                obtain⟨⟨_,rfl⟩,rfl,rfl,⟨_,rfl⟩,rfl⟩:=hw
                exact e2
              · cases hw
            exact wpAnyLast_take (v:=undef) ho hs hf hr hcl hla (deaf_lift hq _ _) (.inr ⟨gd_ok ha hg,rfl⟩) hS (ih _ _ _ _ _ cs hall hc hn _ (ha.putS hd undef))
          · cases h0
        · cases h0

section
variable {P : Program} {N : Nat} {ops : Array Oper} {wd w : World} {ds : List Nat} {qs : QS} {l : Slots}
theorem XB_run {fuel fuel':Nat}{listed:Array Bool}(hS:Below wd.heap.size wd w)(ids:List Nat)(ov:List (Nat×Ov))(vs:List Value)(listed':Array Bool)(l':Slots)(cs:World→List Prop)(hc:∀ w,Below wd.heap.size wd w→allP (cs w))(hn:XB P N ops wd ds fuel' listed' qs l' w)(hq:Deaf qs:=by exact fun _ _ _ _ h=>h)
    (h:∀ w,(gA P N ops ov ds false w ids listed l).map (fun r=>(r.1,r.2.1,keep r.2.2.1 (l'.map (·.1)),r.2.2.2))=some (vs,listed',l',List.replicate ids.length w,cs w):=by intro w_; kernel_rfl) (hf:fuel=ids.length+fuel':=by rfl):XB P N ops wd ds fuel listed qs l w:=by
  subst hf
  have h2:∀ w,gA P N ops ov ds false w ids listed l=some (vs,listed',putIds ops ids vs l,List.replicate ids.length w,cs w)∧keep (putIds ops ids vs l) (l'.map (·.1))=l':=by
    intro w
    obtain⟨r,hr,he⟩:=Option.map_eq_some_iff.1 (h w)
    obtain⟨vs1,ls1,l1,ws1,cs1⟩:=r
    simp only[Prod.mk.injEq]at he
    obtain⟨rfl,rfl,he,rfl,rfl⟩:=he
    have:=gA_slots _ _ _ _ _ _ _ _ hr
    subst this
    exact⟨hr,he⟩
  refine XB_gP hq hS ids listed l _ _ _ _ (fun w=>(h2 w).1) hc ?_
  intro a ha
  exact hn a (by rw[←(h2 w).2]; exact ha.keep _)
theorem XB_act {fuel fuel':Nat}{listed:Array Bool}(i:Nat)(listed':Array Bool)(o:Oper)(h0:ops[i]?=some o)(hr:Region.ready .any ops listed=[i])(hi:ds.contains i=true)(hl:listed.setIfInBounds i true=listed')(hf:fuel=fuel'+1)
    (h:XL P N ops [o] (thenS (fun l' w'=>XB P N ops wd ds fuel' listed' qs l' w') qs) l w):XB P N ops wd ds fuel listed qs l w:=by
  subst hf
  subst hl
  intro a ha
  refine wpAnyLast_all hr (by simp) fun j hj=>?_
  obtain rfl:j=i:=by simpa using hj
  have h1:=h a ha
  unfold wpOp
  simp only[h0]
  have hm:∀ a' w',lift N (thenS (fun l' w'=>XB P N ops wd ds fuel' (listed.setIfInBounds j true) qs l' w') qs) .normal a' w'→
      (j∉ds→Below wd.heap.size wd w→Below wd.heap.size wd w')∧wpAnyLast P .any ops (lift N qs) (fun w'=>Below wd.heap.size wd w') ds fuel' (listed.setIfInBounds j true) a' w':=by
    rintro a' w' ⟨l',hl',hx⟩
    exact⟨fun hn=>absurd (by simpa using hi) hn,hx a' hl'⟩
  unfold wpList at h1
  split at h1
  · rename_i hw
    rw[if_pos hw]
    refine h1.imp (fun h1=>upon_Q (Q:=lift N (thenS (fun l' w'=>XB P N ops wd ds fuel' (listed.setIfInBounds j true) qs l' w') qs)) (fun _ _ _ hx=>hx) (fun hx=>hx) (Oper.wp_mono (fun a' w' hx=>hm a' w' hx) h1)) (fun h=>h)
  · rename_i hw
    rw[if_neg hw]
    exact hm _ _ h1
theorem XB_mid {fuel fuel':Nat}{listed:Array Bool}(i:Nat)(listed':Array Bool)(o:Oper)(h0:ops[i]?=some o)(hr:Region.ready .any ops listed=[i])(hl:listed.setIfInBounds i true=listed')(hf:fuel=fuel'+1)
    (h:XL P N ops [o] (thenS (fun l' w'=>Below wd.heap.size wd w'∧XB P N ops wd ds fuel' listed' qs l' w') qs) l w):XB P N ops wd ds fuel listed qs l w:=by
  subst hf
  subst hl
  intro a ha
  refine wpAnyLast_all hr (by simp) fun j hj=>?_
  obtain rfl:j=i:=by simpa using hj
  have h1:=h a ha
  unfold wpOp
  simp only[h0]
  have hm:∀ a' w',lift N (thenS (fun l' w'=>Below wd.heap.size wd w'∧XB P N ops wd ds fuel' (listed.setIfInBounds j true) qs l' w') qs) .normal a' w'→
      (j∉ds→Below wd.heap.size wd w→Below wd.heap.size wd w')∧wpAnyLast P .any ops (lift N qs) (fun w'=>Below wd.heap.size wd w') ds fuel' (listed.setIfInBounds j true) a' w':=by
    rintro a' w' ⟨l',hl',hb,hx⟩
    exact⟨fun _ _=>hb,hx a' hl'⟩
  unfold wpList at h1
  split at h1
  · rename_i hw
    rw[if_pos hw]
    refine h1.imp (fun h1=>upon_Q (Q:=lift N (thenS (fun l' w'=>Below wd.heap.size wd w'∧XB P N ops wd ds fuel' (listed.setIfInBounds j true) qs l' w') qs)) (fun _ _ _ hx=>hx) (fun hx=>hx) (Oper.wp_mono (fun a' w' hx=>hm a' w' hx) h1)) (fun h=>h)
  · rename_i hw
    rw[if_neg hw]
    exact hm _ _ h1
theorem XB_done {fuel:Nat}{listed:Array Bool}(hr:Region.ready .any ops listed=[])(h:qs .normal l w):XB P N ops wd ds fuel listed qs l w:=fun a ha=>wpAnyLast_done hr ⟨l,ha,h⟩ fuel
theorem X_grow {id:Nat}(ds:List Nat)(fuel:Nat)(listed:Array Bool)(hm:P.follows .mixedOrders=true)(hs:ops.size=fuel)(hl:Array.replicate fuel false=listed)
    (h:∀ wd,Below w.heap.size w wd→wd.heap=w.heap→XB P N ops wd ds fuel listed qs l wd):X P N (.region id ops true) qs l w:=by
  subst hs
  subst hl
  intro a ha
  exact wp_region_last hm (S:=fun w'=>Below (World.heap { w with drawn:=w.drawn+1 }).size { w with drawn:=w.drawn+1 } w') (ds:=ds) (h _ (below_drew w) rfl a ha)
theorem XB_runC {fuel fuel':Nat}{listed:Array Bool}(hS:Below wd.heap.size wd w)(ids:List Nat)(ov:List (Nat×Ov))(vs:List Value)(listed':Array Bool)(new:Slots)(dd:List Nat)(cs:World→List Prop)(hc:∀ w,Below wd.heap.size wd w→allP (cs w))(hn:XB P N ops wd ds fuel' listed' qs (nx new l dd) w)
    (hq:Deaf qs:=by exact fun _ _ _ _ h=>h) (h:∀ w,(gA P N ops ov ds false w ids listed l).map (fun r=>(r.1,r.2.1,keep r.2.2.1 ((nx new l dd).map (·.1)),r.2.2.2))=some (vs,listed',nx new l dd,List.replicate ids.length w,cs w):=by intro w_; kernel_rfl) (hf:fuel=ids.length+fuel':=by rfl):XB P N ops wd ds fuel listed qs l w:=XB_run hS ids ov vs listed' (nx new l dd) cs hc hn hq h hf
end
end Go.Proofs.YtgphmfnkeolbcaaGreatDoor.RX
