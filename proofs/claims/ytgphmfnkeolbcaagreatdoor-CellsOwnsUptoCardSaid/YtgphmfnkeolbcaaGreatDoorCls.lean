import Derived.Test.YtgphmfnkeolbcaaGreatDoorAn3
import Derived.Test.YtgphmfnkeolbcaaGreatDoorUtf4
import Derived.Test.YtgphmfnkeolbcaaGreatDoorSpare
/- Builders: operations that are cut in pieces, and inserts that change places with the deletes behind them. No condition. -/
set_option linter.unusedVariables false
set_option linter.unusedSimpArgs false
set_option maxRecDepth 100000
namespace Go.Proofs.YtgphmfnkeolbcaaGreatDoor
open Go Go.RowKit Go.Proofs.YtgphmfnkeolbcaaGreatDoorW.PrintWords RX
namespace B
theorem jo_assoc (c a b:OpA):jo (jo c a) b=jo c (jo a b):=by
  unfold jo
  simp only
  rw[app_assoc,Int.add_assoc]
theorem push_push {X:List OpA}{a b:OpA}(hm:meets a b):push (push X a) b=push X (jo a b):=by
  obtain⟨m1,m2,m3⟩:=hm
  rcases snoc_cases X with rfl|⟨ys,c,rfl⟩
  · rw[push_nil,←List.nil_append [a],push_snoc,if_pos ⟨m1,m2,m3⟩]; rfl
  · rw[push_snoc,push_snoc]
    by_cases h:meets c a
    · have h2:meets (jo c a) b:=⟨h.1.trans m1,m2,h.2.2.trans m3⟩
      have h3:meets c (jo a b):=⟨h.1,h.2.1,h.2.2⟩
      rw[if_pos h,if_pos h3,push_snoc,if_pos h2,jo_assoc]
    · have h3:¬meets c (jo a b):=fun k=>h ⟨k.1,k.2.1,k.2.2⟩
      rw[if_neg h,if_neg h3,push_snoc,if_pos ⟨m1,m2,m3⟩]
theorem rb_ne {l:List Int}(hv:∀ r∈l,U.vz r)(h:l≠[]):runesBytes l≠⟨#[]⟩:=by
  intro e
  obtain⟨u1,u2⟩:=U.text_utf hv
  rw[e]at u2
  have h1:=U.utf_flat (s:=⟨#[]⟩) (by rw[←e]; exact u1)
  have h2:U.flat (U.sc ⟨#[]⟩)=[]:=h1.symm
  have h3:=U.flat_le (U.sc ⟨#[]⟩)
  rw[h2]at h3
  have h4:U.sc ⟨#[]⟩=[]:=List.eq_nil_of_length_eq_zero (Nat.le_zero.1 h3)
  rw[h4]at u2
  exact h u2.symm
end B
end Go.Proofs.YtgphmfnkeolbcaaGreatDoor

set_option linter.unusedVariables false
set_option linter.unusedSimpArgs false
set_option maxRecDepth 100000
namespace Go.Proofs.YtgphmfnkeolbcaaGreatDoor.RX
open Go Go.RowKit Go.Proofs.YtgphmfnkeolbcaaGreatDoorW.PrintWords

structure CellA where
  rune:Int
  kind:ByteArray
  vk:Int
  vn:Int
  vt:ByteArray
  attrs:List At
def cell0 :CellA:=⟨0,ByteArray.empty,0,0,ByteArray.empty,[]⟩
abbrev c6L (x:CellA)(v:Value):List Value:=[.int .i32 x.rune,.string x.kind,.int .i64 x.vk,.int .i64 x.vn,.string x.vt,v]
abbrev c6A (x:CellA)(v:Value):Array Value:=#[.int .i32 x.rune,.string x.kind,.int .i64 x.vk,.int .i64 x.vn,.string x.vt,v]
def CellA.tup (o:CellA):Int×ByteArray×(Int×Int×ByteArray)×List At:=(o.rune,o.kind,(o.vk,o.vn,o.vt),o.attrs)
def kCell :Kd CellA:=Kd.comap CellA.tup (Kd.pair (Kd.int .i32) (Kd.pair Kd.string (Kd.pair (Kd.pair (Kd.int .i64) (Kd.pair (Kd.int .i64) Kd.string)) kAttrs)))
def cellV (x:CellA)(A:Option Addr)(c:Nat):List Value:=[.int .i32 x.rune,.string x.kind,.int .i64 x.vk,.int .i64 x.vn,.string x.vt,.slice A x.attrs.length c]
theorem kCell_K {w:World}{x:CellA}{cs:List Value}(h:kCell.K w x cs):∃ A c,cs=cellV x A c∧x.attrs.length≤c∧kAttr.C w A x.attrs.length x.attrs:=by
  obtain⟨_,_,rfl,rfl,_,_,rfl,rfl,_,_,rfl,⟨_,_,rfl,rfl,_,_,rfl,rfl,rfl⟩,A,c,rfl,hl,hC⟩:=h
  exact⟨A,c,rfl,hl,hC⟩
theorem kCell_K_of {w:World}{x:CellA}{A:Option Addr}{c:Nat}(hl:x.attrs.length≤c)(hC:kAttr.C w A x.attrs.length x.attrs):kCell.K w x (cellV x A c):=
  ⟨[.int .i32 x.rune],_,rfl,rfl,[.string x.kind],_,rfl,rfl,[.int .i64 x.vk,.int .i64 x.vn,.string x.vt],_,rfl,⟨[.int .i64 x.vk],_,rfl,rfl,[.int .i64 x.vn],_,rfl,rfl,rfl⟩,A,c,rfl,hl,hC⟩
theorem Kd.atCell {w:World}{A:Option Addr}{n:Nat}{xs:List CellA}(h:kCell.C w A n xs){i:Int}(h0:0≤i)(h1:i<n):∃ ad B c,A=some ad∧CellsAt w (ad.add (i.toNat*6)) (cellV (xs.getD i.toNat cell0) B c)∧(xs.getD i.toNat cell0).attrs.length≤c∧kAttr.C w B (xs.getD i.toNat cell0).attrs.length (xs.getD i.toNat cell0).attrs:=by
  obtain⟨ad,cs,e,hK,hc⟩:=Kd.atC h cell0 h0 h1
  obtain⟨B,c,rfl,hl,hC⟩:=kCell_K hK
  exact⟨ad,B,c,e,hc,hl,hC⟩
theorem kCell_M {w:World}{base:Nat}{ok:Nat→Prop}{x:CellA}{B:Option Addr}{c:Nat}(h:kAttrs.M w base ok x.attrs [.slice B x.attrs.length c]):kCell.M w base ok x (cellV x B c):=
  ⟨[.int .i32 x.rune],_,rfl,rfl,[.string x.kind],_,rfl,rfl,[.int .i64 x.vk,.int .i64 x.vn,.string x.vt],_,rfl,⟨[.int .i64 x.vk],_,rfl,rfl,[.int .i64 x.vn],_,rfl,rfl,rfl⟩,h⟩
theorem kCell_M0 {w:World}{base:Nat}{ok:Nat→Prop}(x:CellA)(h:x.attrs=[]):kCell.M w base ok x (cellV x none 0):=by
  obtain⟨a,b,c,d,e,at9⟩:=x
  obtain rfl:at9=[]:=h
  exact kCell_M kAttrs_nil
theorem Kd.R_iter {α:Type}{d:Kd α}{e:Nat}{w w1:World}{base:Nat}{ok:Nat→Prop}{v:Value}{xs:List α}{g p:Nat}{s:ByteArray}(h:d.R e w base ok v xs)(hg:w.heap[g]?=some (.stringIter s p))(k:w.grownBy w1 (some g)):d.R e w1 base ok v xs:=by
  have h2:=Kd.R_bound h
  refine Kd.R_mono (Kd.R_grown h2 k (fun j hj e1=>?_)) (fun j hj=>hj.1)
  obtain⟨_,_,_,q,_,cells,hc⟩:=hj
  obtain rfl:j=g:=by injection e1
  rw[hg]at hc
  cases hc
theorem Kd.iter_kept {α:Type}{d:Kd α}{e:Nat}{w w1:World}{base:Nat}{ok:Nat→Prop}{A:Option Addr}{n c:Nat}{xs:List α}{g p:Nat}{s:ByteArray}(hg:w.heap[g]?=some (.stringIter s p))(h:d.R e w base ok (.slice A n c) xs)(k:w.grownBy w1 (A.map (·.block))):w1.heap[g]?=some (.stringIter s p):=by
  obtain⟨_,_,_,_,hk⟩:=k
  refine(hk g (Array.getElem?_eq_some_iff.1 hg).1 fun e1=>?_).trans hg
  obtain⟨inner,ho⟩:=Kd.R_own h
  obtain⟨cells,hc⟩:=own_typed ho g (by rw[ownB]; exact e1.symm)
  rw[hg]at hc
  cases hc
end Go.Proofs.YtgphmfnkeolbcaaGreatDoor.RX
set_option linter.unusedVariables false
set_option linter.unusedSimpArgs false
set_option maxRecDepth 100000
namespace Go.Proofs.YtgphmfnkeolbcaaGreatDoor
open Go Go.RowKit Go.Proofs.YtgphmfnkeolbcaaGreatDoorW.PrintWords RX
namespace B
def cErr (c:CellA):Nat:=
  if c.rune= -1 then
    (if c.kind=⟨#[]⟩∨64<c.kind.size then 6 else if (uchk c.kind).2=false then 1 else if plainErr c.vk c.vn c.vt≠0 then plainErr c.vk c.vn c.vt else chkA false c.attrs)
  else if ¬U.vz c.rune∨c.kind≠⟨#[]⟩∨(c.vk,c.vn,c.vt)≠pl0 then 5 else chkA false c.attrs
def opC (c:CellA):OpA:=if c.rune= -1 then ⟨2,c.kind,c.vk,c.vn,c.vt,0,c.attrs⟩else ⟨1,runesBytes [c.rune],0,0,⟨#[]⟩,0,c.attrs⟩
def grp (zs:List CellA)(a:List At):OpA:=⟨1,runesBytes (zs.map (·.rune)),0,0,⟨#[]⟩,0,a⟩
noncomputable def cOf (cs:List CellA):Nat×Nat:=firstE (fun i=>cErr (cs.getD i cell0)) cs.length
theorem op_emb {c:CellA}(h:c.rune= -1):opC c=⟨2,c.kind,c.vk,c.vn,c.vt,0,c.attrs⟩:=if_pos h
theorem op_txt {c:CellA}(h:c.rune≠ -1):opC c=⟨1,runesBytes [c.rune],0,0,⟨#[]⟩,0,c.attrs⟩:=if_neg h
theorem op_kind (c:CellA):(opC c).kind=1∨(opC c).kind=2:=by
  by_cases h:c.rune= -1
  · rw[op_emb h]; exact .inr rfl
  · rw[op_txt h]; exact .inl rfl
theorem c_txt {c:CellA}(h:cErr c=0)(hr:c.rune≠ -1):U.vz c.rune∧c.kind=⟨#[]⟩∧(c.vk,c.vn,c.vt)=pl0∧chkA false c.attrs=0:=by
  unfold cErr at h
  rw[if_neg hr]at h
  split at h
  · cases h
  · rename_i hn
    refine⟨Classical.byContradiction fun k=>hn (.inl k),Classical.byContradiction fun k=>hn (.inr (.inl k)),Classical.byContradiction fun k=>hn (.inr (.inr k)),h⟩
theorem c_emb {c:CellA}(h:cErr c=0)(hr:c.rune= -1):c.kind≠⟨#[]⟩∧c.kind.size≤64∧(uchk c.kind).2=true∧plainErr c.vk c.vn c.vt=0∧chkA false c.attrs=0:=by
  unfold cErr at h
  rw[if_pos hr]at h
  split at h
  · cases h
  · rename_i h1
    split at h
    · cases h
    · rename_i h2
      split at h
      · rename_i h3; exact absurd h h3
      · rename_i h3
        exact⟨fun k=>h1 (.inl k),by
          have:=fun k=>h1 (.inr k)
          omega,by simpa using h2,by omega,h⟩
theorem vz1 {r:Int}(h:U.vz r):∀ q∈[r],U.vz q:=fun q hq=>by rw[List.mem_singleton.1 hq]; exact h
theorem op_ok {c:CellA}(h:cErr c=0):pErr (opC c)=0∧opB (opC c)=0∧opR (opC c)=1:=by
  by_cases hr:c.rune= -1
  · obtain⟨h1,h2,h3,h4,h5⟩:=c_emb h hr
    rw[op_emb hr]
    refine⟨?_,opB_ins (.inr rfl),opR_emb rfl⟩
    unfold pErr hasP refuseP
    simp only[show ¬((2:Int)=1) by decide,if_false,if_true,decide_true,Bool.true_eq_false,or_true,false_and,ne_eq,not_true,false_or,h1,h3,h4,h5,true_and,not_false_iff,and_false,false_and,if_neg]
    rw[if_neg (by omega)]
  · obtain⟨h1,h2,h3,h4⟩:=c_txt h hr
    rw[op_txt hr]
    obtain⟨u1,u2⟩:=U.text_utf (vz1 h1)
    refine⟨ok_mkT (rb_ne (vz1 h1) (by simp)) u1 h4,opB_ins (.inl rfl),?_⟩
    rw[opR_txt rfl]
    have:=congrArg List.length u2
    rw[List.length_map]at this
    show ((U.sc (runesBytes [c.rune])).length:Int)=1
    rw[this]; rfl
theorem empty_app (s:ByteArray):ByteArray.empty++s=s:=U.bl_inj (by rw[bl_append]; rfl)
theorem rb_append (l m:List Int):runesBytes (l++m)=runesBytes l++runesBytes m:=by
  unfold runesBytes
  rw[List.foldl_append]
  have key:∀ (m:List Int) (s:ByteArray),m.foldl (fun r n=>r++Utf8.encode n) s=s++m.foldl (fun r n=>r++Utf8.encode n) ByteArray.empty:=by
    intro m
    induction m with
    | nil=>intro s; exact(app_empty s).symm
    | cons a m ih=>
      intro s
      rw[List.foldl_cons,List.foldl_cons,ih (s++Utf8.encode a),ih (ByteArray.empty++Utf8.encode a),app_assoc,empty_app]
  exact key m _
theorem foldl_ins :∀ (os:List OpA) (s:St),(∀ o∈os,o.kind=1∨o.kind=2)→os.foldl step s=(os.foldl push s.1,s.2)
  | [],s,_=>rfl
  | o::r,s,h=>by
    have h1:=h o List.mem_cons_self
    rw[List.foldl_cons,List.foldl_cons,foldl_ins r _ fun x hx=>h x (List.mem_cons_of_mem _ hx)]
    unfold step
    rw[if_neg (by omega),if_neg (by omega)]
theorem grp_push (a:List At):∀ zs:List CellA,zs≠[]→(∀ c∈zs,c.rune≠ -1∧c.attrs=a)→∀ P,(zs.map opC).foldl push P=push P (grp zs a):=by
  refine snoc_ind (fun h=>absurd rfl h) ?_
  intro ys c ih _ h P
  have hc:=h c (List.mem_append_right _ (List.mem_singleton_self c))
  have ec:opC c=grp [c] a:=by
    rw[op_txt hc.1,hc.2]; rfl
  by_cases h0:ys=[]
  · subst h0
    show push P (opC c)=_
    rw[ec]; rfl
  · rw[List.map_append,List.foldl_append,ih h0 (fun x hx=>h x (List.mem_append_left _ hx)) P]
    show push (push P (grp ys a)) (opC c)=_
    rw[ec,push_push (a:=grp ys a) (b:=grp [c] a) ⟨rfl,by show (1:Int)≠2; decide,rfl⟩]
    unfold jo grp
    simp only
    rw[List.map_append,rb_append]
    rfl
theorem grp_step {zs:List CellA}{a:List At}(h0:zs≠[])(h:∀ c∈zs,c.rune≠ -1∧c.attrs=a)(s:St):step s (grp zs a)=(zs.map opC).foldl step s:=by
  rw[foldl_ins _ _ fun o ho=>by
    obtain⟨c,_,rfl⟩:=List.mem_map.1 ho
    exact op_kind c,grp_push a zs h0 h]
  unfold step
  rw[if_neg (by show ¬(1:Int)=4; decide),if_neg (by show ¬(1:Int)=3; decide)]
theorem grp_ok {zs:List CellA}{a:List At}(h0:zs≠[])(h:∀ c∈zs,c.rune≠ -1∧c.attrs=a)(hg:∀ c∈zs,cErr c=0):pErr (grp zs a)=0∧opB (grp zs a)=0∧opR (grp zs a)=(zs.length:Int)∧(∀ r∈zs.map (·.rune),U.vz r):=by
  have hv:∀ r∈zs.map (·.rune),U.vz r:=fun r hr=>by
    obtain⟨c,hc,rfl⟩:=List.mem_map.1 hr
    exact(c_txt (hg c hc) (h c hc).1).1
  have ha:chkA false a=0:=by
    cases zs with
    | nil=>exact absurd rfl h0
    | cons c r=>
      have h1:=h c List.mem_cons_self
      rw[←h1.2]
      exact(c_txt (hg c List.mem_cons_self) h1.1).2.2.2
  obtain⟨u1,u2⟩:=U.text_utf hv
  refine⟨ok_mkT (rb_ne hv fun e=>h0 (List.map_eq_nil_iff.1 e)) u1 ha,opB_ins (.inl rfl),?_,hv⟩
  rw[opR_txt rfl]
  have:=congrArg List.length u2
  rw[List.length_map,List.length_map]at this
  show ((U.sc (runesBytes (zs.map (·.rune)))).length:Int)=_
  rw[this]
theorem rb_size {l:List Int}(h:∀ r∈l,U.vz r):(runesBytes l).size≤4*l.length:=by
  obtain⟨rs,rfl,hv⟩:=U.vz_map h
  have h1:=congrArg List.length (U.runesBytes_flat rs)
  rw[U.bl_size]at h1
  rw[h1,List.length_map]
  clear h1 h hv
  induction rs with
  | nil=>exact Nat.zero_le _
  | cons r rs ih=>
    have:=(U.enc_len r).2
    rw[U.flat_cons,List.length_append,List.length_cons]; omega
theorem doc_ok :∀ cs:List CellA,(∀ c∈cs,cErr c=0)→badE (cs.map opC)=0∧sB (cs.map opC)=0∧sR (cs.map opC)=(cs.length:Int)
  | [],_=>⟨rfl,rfl,rfl⟩
  | c::r,h=>by
    obtain⟨h1,h2,h3⟩:=op_ok (h c List.mem_cons_self)
    obtain⟨k1,k2,k3⟩:=doc_ok r fun x hx=>h x (List.mem_cons_of_mem _ hx)
    refine⟨badE_mem.2 fun o ho=>?_,?_,?_⟩
    · rcases List.mem_cons.1 ho with rfl|ho
      · exact h1
      · exact badE_mem.1 k1 o ho
    · show opB (opC c)+sB (r.map opC)=0
      rw[h2,k2]; rfl
    · show opR (opC c)+sR (r.map opC)=_
      rw[h3,k3,List.length_cons]; omega
theorem cOf_ok {cs:List CellA}(h:(cOf cs).2=0):∀ c∈cs,cErr c=0:=fun c hc=>by
  obtain⟨i,hi,rfl⟩:=List.mem_iff_getElem.1 hc
  have:=first_zero h i hi
  rwa [List.getD_eq_getElem?_getD,List.getElem?_eq_getElem hi]at this
theorem doc_of {cs:List CellA}(h:∀ c∈cs,cErr c=0)(hn:cs.length≤1048576):bOf (cs.map opC)=(0,0):=by
  obtain⟨h1,h2,h3⟩:=doc_ok cs h
  exact bOf_of h1 (by rw[h2]; decide) (by rw[h3]; show (cs.length:Int)≤1099511627776; omega)
def cellSz (c:CellA):Prop:=c.kind.size≤50000000∧c.vt.size≤50000000∧c.attrs.length≤1048576∧∀ i,i<c.attrs.length→(c.attrs.getD i at0).1.size≤100000000∧(c.attrs.getD i at0).2.2.2.size≤100000000
theorem op_sz {c:CellA}(h:cErr c=0)(hz:cellSz c):opSz (opC c)∧(opC c).text.size≤64:=by
  by_cases hr:c.rune= -1
  · rw[op_emb hr]
    have:=(c_emb h hr).2.1
    exact⟨⟨hz.1,hz.2.1,hz.2.2⟩,this⟩
  · rw[op_txt hr]
    have:=rb_size (vz1 (c_txt h hr).1)
    have h4:(runesBytes [c.rune]).size≤4:=this
    exact⟨⟨by show (runesBytes [c.rune]).size≤_; omega,Nat.zero_le _,hz.2.2⟩,by show (runesBytes [c.rune]).size≤_; omega⟩
theorem doc_tx :∀ cs:List CellA,(∀ c∈cs,cErr c=0∧cellSz c)→txS (cs.map opC)≤64*cs.length
  | [],_=>Nat.zero_le _
  | c::r,h=>by
    have h1:=h c List.mem_cons_self
    have:=doc_tx r fun x hx=>h x (List.mem_cons_of_mem _ hx)
    have h2:=(op_sz h1.1 h1.2).2
    show (opC c).text.size+txS (r.map opC)≤_
    rw[List.length_cons]; omega
end B
end Go.Proofs.YtgphmfnkeolbcaaGreatDoor
