import Derived.Test.YtlnnjfdonilgmaaGreatDoorMap
import Derived.Laws.AppendOwn
/- Cells that function values have captured, and rows beside them. No condition. -/

set_option linter.unusedVariables false
set_option linter.unusedSimpArgs false
namespace Go.Proofs.YtlnnjfdonilgmaaGreatDoor.RX
open Go Go.RowKit Go.Proofs.YtlnnjfdonilgmaaGreatDoorW.PrintWords
theorem grown_at {w w1:World}{r:Option Nat}(k:w.grownBy w1 r){g:Nat}(hg:g<w.heap.size)(hne:∀ x,r=some x→g≠x):w1.heap[g]?=w.heap[g]?:=by
  obtain⟨_,_,_,_,h⟩:=k
  exact h g hg (fun e=>hne g e.symm rfl)
theorem Blk.other {w w1:World}{g g':Nat}{t:TypeId}{cs:Array Value}(h:Blk w g t cs)(k:w.grownBy w1 (some g'))(hne:g≠g'):Blk w1 g t cs:=
  (grown_at k h.lt fun x hx e=>by injection hx with hx; omega).trans h
theorem Kd.R_past {α:Type}{d:Kd α}{e:Nat}{w w1:World}{base g:Nat}{v:Value}{xs:List α}(h:d.R e w base (OkFrom base) v xs)(k:w.grownBy w1 (some g))(hg:g<base):d.R e w1 base (OkFrom base) v xs:=
  Kd.R_step h fun j hj hlt=>grown_at k hlt fun x hx e=>by injection hx with hx; subst hx; subst e; have:base≤j:=hj; omega
section
variable {α : Type} {d : Kd α} {e : Nat} {w w1 W : World} {base : Nat} {ok : Nat → Prop} {A A1 B : Option Addr} {n c m c' : Nat} {xs ys : List α} {g : Nat}
theorem Kd.R_ge (h:d.R e w base ok (.slice A n c) xs):∀ k,A.map (·.block)=some k→base≤k:=by
  obtain⟨inner,ho⟩:=Kd.R_own h
  intro k hk
  exact own_base ho k (by rw[ownB]; exact hk)
theorem Blk.ne {t:TypeId}{cs:Array Value}(h:Blk w g t cs){r:Option Nat}(k:w.grownBy w1 r)(hne:∀ k,r=some k→k≠g):Blk w1 g t cs:=
  (grown_at k h.lt fun x hx e=>hne x hx e.symm).trans h
theorem ret_cellT {P:Program}{fn:Func}{N:Nat}{R:Ending→World→Prop}{l:Slots}{w:World}{c b:Tmp}{t:TypeId}{p:Addr}{v u:Value}(hr:fn.results=#[.cell c t,.tmp b])(hl:look l c=some (.pointer (some p)))(h:(loadVar t p).run P w=.ok v w)(hb:look l b=some u)(hR:R (.returned (.tuple #[v,u])) w)  (hds:dsOf l=[]:=by kernel_rfl):retS P fn N R .ret l w:=by
  refine⟨hds,_,fun a ha=>?_,hR⟩
  have h3:a.tmps.getD c undef=.pointer (some p):=by
    have:=ha.at_ c _ hl
    simp[Array.getD_eq_getD_getElem?,this]
  have h4:a.tmps.getD b undef=u:=by
    have:=ha.at_ b _ hb
    simp[Array.getD_eq_getD_getElem?,this]
  unfold results
  rw[hr,Array.mapM_eq_mapM_toList]
  simp only[Sem.run_bind,Sem.run_map,Sem.run_pure,List.mapM_cons,List.mapM_nil,h3,h4,asAddr,Result.andThen_ok,h]
  simp
end
def Kd.comap {α β:Type}(f:β→α)(d:Kd α):Kd β where
  sz:=d.sz
  E:=d.E
  K:=fun w x cs=>d.K w (f x) cs
  M:=fun w b ok x cs=>d.M w b ok (f x) cs
  K_len:=fun h=>d.K_len h
  K_one:=fun h=>d.K_one h
  K_below:=fun hb h=>d.K_below hb h
  K_of_M:=fun h=>d.K_of_M h
  M_mono:=fun hk h=>d.M_mono hk h
  M_bound:=fun h=>d.M_bound h
  M_move:=fun hm h=>d.M_move hm h
  M_lower:=fun hb h=>d.M_lower hb h
def Kd.boxed {α:Type}(T:Nat)(d:Kd α):Kd α where
  sz:=1
  E:=d.E
  K:=fun w x cs=>∃ c,d.K w x c∧cs=[.iface T (.agg c.toArray)]
  M:=fun w b ok x cs=>∃ c,d.M w b ok x c∧cs=[.iface T (.agg c.toArray)]
  K_len:=fun h=>by obtain⟨c,_,rfl⟩:=h; rfl
  K_one:=fun h u hu=>by
    obtain⟨c,_,rfl⟩:=h
    rw[List.mem_singleton.1 hu]
    rfl
  K_below:=fun hb h=>by obtain⟨c,h,e⟩:=h; exact⟨c,d.K_below hb h,e⟩
  K_of_M:=fun h=>by obtain⟨c,h,e⟩:=h; exact⟨c,d.K_of_M h,e⟩
  M_mono:=fun hk h=>by obtain⟨c,h,e⟩:=h; exact⟨c,d.M_mono hk h,e⟩
  M_bound:=fun h=>by obtain⟨c,h,e⟩:=h; exact⟨c,d.M_bound h,e⟩
  M_move:=fun hm h=>by obtain⟨c,h,e⟩:=h; exact⟨c,d.M_move hm h,e⟩
  M_lower:=fun hb h=>by obtain⟨c,h,e⟩:=h; exact⟨c,d.M_lower hb h,e⟩
def Kd.sum {α β:Type}(a:Kd α)(b:Kd β)(hs:b.sz=a.sz):Kd (α ⊕ β) where
  sz:=a.sz
  E:=a.E++b.E
  K:=fun w x cs=>match x with
    | .inl x=>a.K w x cs
    | .inr y=>b.K w y cs
  M:=fun w bs ok x cs=>match x with
    | .inl x=>a.M w bs ok x cs
    | .inr y=>b.M w bs ok y cs
  K_len:=fun {w x cs} h=>by
    cases x with
    | inl x=>exact a.K_len h
    | inr y=>exact(b.K_len h).trans hs
  K_one:=fun {w x cs} h=>by
    cases x with
    | inl x=>exact a.K_one h
    | inr y=>exact b.K_one h
  K_below:=fun {w w1 x cs} hb h=>by
    cases x with
    | inl x=>exact a.K_below hb h
    | inr y=>exact b.K_below hb h
  K_of_M:=fun {w bs ok x cs} h=>by
    cases x with
    | inl x=>exact a.K_of_M h
    | inr y=>exact b.K_of_M h
  M_mono:=fun {w bs ok ok' x cs} hk h=>by
    cases x with
    | inl x=>exact a.M_mono hk h
    | inr y=>exact b.M_mono hk h
  M_bound:=fun {w bs ok x cs} h=>by
    cases x with
    | inl x=>exact a.M_mono (fun k ⟨h1,h2,h3,q,hq,hc⟩=>⟨h1,h2,h3,q,List.mem_append_left _ hq,hc⟩) (a.M_bound h)
    | inr y=>exact b.M_mono (fun k ⟨h1,h2,h3,q,hq,hc⟩=>⟨h1,h2,h3,q,List.mem_append_right _ hq,hc⟩) (b.M_bound h)
  M_move:=fun {w w1 bs ok x cs} hm h=>by
    cases x with
    | inl x=>exact a.M_move hm h
    | inr y=>exact b.M_move hm h
  M_lower:=fun {w bs bs' ok x cs} hb h=>by
    cases x with
    | inl x=>exact a.M_lower hb h
    | inr y=>exact b.M_lower hb h
abbrev At :=ByteArray×Int×Int×ByteArray
def at0 :At:=(ByteArray.empty,0,0,ByteArray.empty)
def atV (x:At):List Value:=[.string x.1,.int .i64 x.2.1,.int .i64 x.2.2.1,.string x.2.2.2]
def kAttr :Kd At:=Kd.pair Kd.string (Kd.pair (Kd.int .i64) (Kd.pair (Kd.int .i64) Kd.string))
theorem kAttr_K {w:World}{x:At}{c:List Value}(h:kAttr.K w x c):c=atV x:=by
  obtain⟨_,_,rfl,rfl,_,_,rfl,rfl,_,_,rfl,rfl,rfl⟩:=h
  rfl
theorem kAttr_M (w:World)(base:Nat)(ok:Nat→Prop)(x:At):kAttr.M w base ok x (atV x):=⟨[.string x.1],_,rfl,rfl,[.int .i64 x.2.1],_,rfl,rfl,[.int .i64 x.2.2.1],[.string x.2.2.2],rfl,rfl,rfl⟩
theorem kAttr_KM {w:World}{base:Nat}{ok:Nat→Prop}(x:At)(cs:List Value)(h:kAttr.K w x cs):kAttr.M w base ok x cs:=by rw[kAttr_K h]; exact kAttr_M _ _ _ _
theorem Kd.atAttr {w:World}{A:Option Addr}{n:Nat}{xs:List At}(h:kAttr.C w A n xs){i:Int}(h0:0≤i)(h1:i<n):∃ ad,A=some ad∧CellsAt w (ad.add (i.toNat*4)) (atV (xs.getD i.toNat at0)):=by
  obtain⟨ad,c,e,hK,hc⟩:=Kd.atC h at0 h0 h1
  obtain rfl:=kAttr_K hK
  exact⟨ad,e,hc⟩
theorem repsAttr {w:World}{base:Nat}{ok:Nat→Prop}(xs:List At):Reps (kAttr.M w base ok) 4 xs (xs.flatMap atV):=reps_flatMap (R:=kAttr.M w base ok) (size:=4) atV (fun _=>rfl) (fun x=>kAttr_M _ _ _ x) xs
set_option maxRecDepth 100000
structure OpA where
  kind:Int
  text:ByteArray
  vk:Int
  vn:Int
  vt:ByteArray
  count:Int
  attrs:List At
def op0 :OpA:=⟨0,ByteArray.empty,0,0,ByteArray.empty,0,[]⟩
abbrev o7L (x:OpA)(v:Value):List Value:=[.int .i64 x.kind,.string x.text,.int .i64 x.vk,.int .i64 x.vn,.string x.vt,.int .i64 x.count,v]
abbrev o7A (x:OpA)(v:Value):Array Value:=#[.int .i64 x.kind,.string x.text,.int .i64 x.vk,.int .i64 x.vn,.string x.vt,.int .i64 x.count,v]
def OpA.tup (o:OpA):Int×ByteArray×(Int×Int×ByteArray)×Int×List At:=(o.kind,o.text,(o.vk,o.vn,o.vt),o.count,o.attrs)
def OpA.val (o:OpA):Int×Int×ByteArray:=(o.vk,o.vn,o.vt)
abbrev kAttrs :Kd (List At):=Kd.slice 148 kAttr
def kOp :Kd OpA:=Kd.comap OpA.tup (Kd.pair (Kd.int .i64) (Kd.pair Kd.string (Kd.pair (Kd.pair (Kd.int .i64) (Kd.pair (Kd.int .i64) Kd.string)) (Kd.pair (Kd.int .i64) kAttrs))))
def opV (x:OpA)(A:Option Addr)(c:Nat):List Value:=[.int .i64 x.kind,.string x.text,.int .i64 x.vk,.int .i64 x.vn,.string x.vt,.int .i64 x.count,.slice A x.attrs.length c]
theorem kOp_K {w:World}{x:OpA}{cs:List Value}(h:kOp.K w x cs):∃ A c,cs=opV x A c∧x.attrs.length≤c∧kAttr.C w A x.attrs.length x.attrs:=by
  obtain⟨_,_,rfl,rfl,_,_,rfl,rfl,_,_,rfl,⟨_,_,rfl,rfl,_,_,rfl,rfl,rfl⟩,_,_,rfl,rfl,A,c,rfl,hl,hC⟩:=h
  exact⟨A,c,rfl,hl,hC⟩
theorem kOp_K_of {w:World}{x:OpA}{A:Option Addr}{c:Nat}(hl:x.attrs.length≤c)(hC:kAttr.C w A x.attrs.length x.attrs):kOp.K w x (opV x A c):=
  ⟨[.int .i64 x.kind],_,rfl,rfl,[.string x.text],_,rfl,rfl,[.int .i64 x.vk,.int .i64 x.vn,.string x.vt],_,rfl,⟨[.int .i64 x.vk],_,rfl,rfl,[.int .i64 x.vn],_,rfl,rfl,rfl⟩,[.int .i64 x.count],_,rfl,rfl,A,c,rfl,hl,hC⟩
theorem Kd.atOp {w:World}{A:Option Addr}{n:Nat}{xs:List OpA}(h:kOp.C w A n xs){i:Int}(h0:0≤i)(h1:i<n):∃ ad B c,A=some ad∧CellsAt w (ad.add (i.toNat*7)) (opV (xs.getD i.toNat op0) B c)∧(xs.getD i.toNat op0).attrs.length≤c∧kAttr.C w B (xs.getD i.toNat op0).attrs.length (xs.getD i.toNat op0).attrs:=by
  obtain⟨ad,cs,e,hK,hc⟩:=Kd.atC h op0 h0 h1
  obtain⟨B,c,rfl,hl,hC⟩:=kOp_K hK
  exact⟨ad,B,c,e,hc,hl,hC⟩
theorem kOp_M {w:World}{base:Nat}{ok:Nat→Prop}{x:OpA}{B:Option Addr}{c:Nat}(h:kAttrs.M w base ok x.attrs [.slice B x.attrs.length c]):kOp.M w base ok x (opV x B c):=
  ⟨[.int .i64 x.kind],_,rfl,rfl,[.string x.text],_,rfl,rfl,[.int .i64 x.vk,.int .i64 x.vn,.string x.vt],_,rfl,⟨[.int .i64 x.vk],_,rfl,rfl,[.int .i64 x.vn],_,rfl,rfl,rfl⟩,[.int .i64 x.count],_,rfl,rfl,h⟩
theorem kAttrs_nil {w:World}{base:Nat}{ok:Nat→Prop}:kAttrs.M w base ok [] [.slice none 0 0]:=⟨_,rfl,Kd.R_nil _ _ _ _ _⟩

def valV (v:Int×Int×ByteArray):Value:=
  if v.1=1 then .iface 203 (.bool (decide (v.2.1=1)))else if v.1=2 then .iface 204 (.int .i64 v.2.1)else if v.1=3 then .iface 205 (.string v.2.2)else .iface 207 (.agg #[])
def kVal :Kd (Int×Int×ByteArray):=Kd.scalar valV (fun v=>by unfold valV; repeat (first|rfl|split))

inductive PieceA where
  | ins (attrs:List At) (text:ByteArray) (len:Int)
  | emb (attrs:List At) (kind:ByteArray) (v:Int×Int×ByteArray)
  | ret (attrs:List At) (count:Int)
  | del (count:Int)
def piece0 :PieceA:=.del 0
def PieceA.sum :PieceA→(List At×ByteArray×Int) ⊕ (List At×ByteArray×(Int×Int×ByteArray)) ⊕ (List At×Int) ⊕ Int
  | .ins a t n=>.inl (a,t,n)
  | .emb a k v=>.inr (.inl (a,k,v))
  | .ret a c=>.inr (.inr (.inl (a,c)))
  | .del c=>.inr (.inr (.inr c))
def kPiece :Kd PieceA:=Kd.comap PieceA.sum (Kd.sum (Kd.boxed 153 (Kd.pair kAttrs (Kd.pair Kd.string (Kd.int .i64)))) (Kd.sum (Kd.boxed 157 (Kd.pair kAttrs (Kd.pair Kd.string kVal))) (Kd.sum (Kd.boxed 131 (Kd.pair kAttrs (Kd.int .i64))) (Kd.boxed 126 (Kd.int .i64)) rfl) rfl) rfl)
theorem kPiece_ins {w:World}{a:List At}{t:ByteArray}{n:Int}{cs:List Value}(h:kPiece.K w (.ins a t n) cs):∃ A c,cs=[.iface 153 (.agg #[.slice A a.length c,.string t,.int .i64 n])]∧a.length≤c∧kAttr.C w A a.length a:=by
  obtain⟨_,⟨_,_,rfl,⟨A,c,rfl,hl,hC⟩,_,_,rfl,rfl,rfl⟩,rfl⟩:=h
  exact⟨A,c,rfl,hl,hC⟩
theorem kPiece_emb {w:World}{a:List At}{k:ByteArray}{v:Int×Int×ByteArray}{cs:List Value}(h:kPiece.K w (.emb a k v) cs):∃ A c,cs=[.iface 157 (.agg #[.slice A a.length c,.string k,valV v])]∧a.length≤c∧kAttr.C w A a.length a:=by
  obtain⟨_,⟨_,_,rfl,⟨A,c,rfl,hl,hC⟩,_,_,rfl,rfl,rfl⟩,rfl⟩:=h
  exact⟨A,c,rfl,hl,hC⟩
theorem kPiece_ret {w:World}{a:List At}{n:Int}{cs:List Value}(h:kPiece.K w (.ret a n) cs):∃ A c,cs=[.iface 131 (.agg #[.slice A a.length c,.int .i64 n])]∧a.length≤c∧kAttr.C w A a.length a:=by
  obtain⟨_,⟨_,_,rfl,⟨A,c,rfl,hl,hC⟩,rfl⟩,rfl⟩:=h
  exact⟨A,c,rfl,hl,hC⟩
theorem kPiece_del {w:World}{n:Int}{cs:List Value}(h:kPiece.K w (.del n) cs):cs=[.iface 126 (.agg #[.int .i64 n])]:=by
  obtain⟨_,rfl,rfl⟩:=h
  rfl
theorem kPiece_Mins {w:World}{base:Nat}{ok:Nat→Prop}{a:List At}{t:ByteArray}{n:Int}{B:Option Addr}{c:Nat}(h:kAttrs.M w base ok a [.slice B a.length c]):kPiece.M w base ok (.ins a t n) [.iface 153 (.agg #[.slice B a.length c,.string t,.int .i64 n])]:=
  ⟨_,⟨_,_,rfl,h,[.string t],_,rfl,rfl,rfl⟩,rfl⟩
theorem kPiece_Memb {w:World}{base:Nat}{ok:Nat→Prop}{a:List At}{k:ByteArray}{v:Int×Int×ByteArray}{B:Option Addr}{c:Nat}(h:kAttrs.M w base ok a [.slice B a.length c]):kPiece.M w base ok (.emb a k v) [.iface 157 (.agg #[.slice B a.length c,.string k,valV v])]:=
  ⟨_,⟨_,_,rfl,h,[.string k],_,rfl,rfl,rfl⟩,rfl⟩
theorem kPiece_Mret {w:World}{base:Nat}{ok:Nat→Prop}{a:List At}{n:Int}{B:Option Addr}{c:Nat}(h:kAttrs.M w base ok a [.slice B a.length c]):kPiece.M w base ok (.ret a n) [.iface 131 (.agg #[.slice B a.length c,.int .i64 n])]:=
  ⟨_,⟨_,_,rfl,h,rfl⟩,rfl⟩
theorem kPiece_Mdel {w:World}{base:Nat}{ok:Nat→Prop}{n:Int}:kPiece.M w base ok (.del n) [.iface 126 (.agg #[.int .i64 n])]:=⟨_,rfl,rfl⟩
theorem Kd.atPiece {w:World}{A:Option Addr}{n:Nat}{xs:List PieceA}(h:kPiece.C w A n xs){i:Int}(h0:0≤i)(h1:i<n):∃ ad v,A=some ad∧CellsAt w (ad.add (i.toNat*1)) [v]∧kPiece.K w (xs.getD i.toNat piece0) [v]:=by
  obtain⟨ad,cs,e,hK,hc⟩:=Kd.atC h piece0 h0 h1
  have hl:=kPiece.K_len hK
  match cs,hl with
  | [v],_=>exact⟨ad,v,e,hc,hK⟩
theorem Kd.M_apart {α β:Type}{d:Kd α}{d':Kd β}{e':Nat}{w:World}{base base':Nat}{x:α}{cs:List Value}{A:Option Addr}{n c:Nat}{ys:List β}{ok':Nat→Prop}(h:d.M w base (OkFrom base) x cs)(hb:base'≤base)
    (h':d'.R e' w base' ok' (.slice A n c) ys) (hne:d.E.contains e'=false):∃ okp,d.M w base' okp x cs∧∀ k,okp k→OkFrom base' k∧some k≠A.map (·.block):=by
  cases A with
  | none=>exact⟨OkFrom base,d.M_lower hb h,fun k hk=>⟨Nat.le_trans hb hk,by simp⟩⟩
  | some ad=>
    obtain⟨inner,ho⟩:=Kd.R_own h'
    obtain⟨cells,hbl⟩:=own_typed ho ad.block rfl
    refine⟨_,d.M_lower hb (d.M_bound h),fun k hk=>⟨Nat.le_trans hb hk.1,fun e=>?_⟩⟩
    obtain⟨_,_,_,q,hq,cs',hc⟩:=hk
    obtain rfl:k=ad.block:=by simpa using e
    rw[hbl]at hc
    injection hc with hc
    injection hc with _ hq' _
    subst hq'
    rw[List.contains_iff_mem.2 hq]at hne
    cases hne
theorem kOp_M0 {w:World}{base:Nat}{ok:Nat→Prop}(x:OpA)(h:x.attrs=[]):kOp.M w base ok x (opV x none 0):=by
  obtain⟨k,t,a,b,s,c,at9⟩:=x
  obtain rfl:at9=[]:=h
  exact kOp_M kAttrs_nil
theorem repsOp0 {w:World}{base:Nat}{ok:Nat→Prop}:∀ (xs:List OpA),(∀ x∈xs,x.attrs=[])→Reps (kOp.M w base ok) 7 xs (xs.flatMap fun x=>opV x none 0)
  | [],_=>Reps.none _ _
  | x::xs,h=>by
    have hs:Reps (kOp.M w base ok) 7 [x] (opV x none 0):=by
      have:=(Reps.none (kOp.M w base ok) 7).snoc (kOp_M0 x (h x List.mem_cons_self)) rfl
      simpa using this
    have:=Kd.reps_append hs (repsOp0 xs fun y hy=>h y (List.mem_cons_of_mem _ hy))
    simpa using this

def kRaw (n:Nat):Kd (List Value) where
  sz:=n
  E:=[]
  K:=fun _ x cs=>cs=x∧x.length=n∧∀ u∈x,u.oneCell'=true
  M:=fun _ _ _ x cs=>cs=x∧x.length=n∧∀ u∈x,u.oneCell'=true
  K_len:=fun h=>by rw[h.1]; exact h.2.1
  K_one:=fun h=>by rw[h.1]; exact h.2.2
  K_below:=fun _ h=>h
  K_of_M:=fun h=>h
  M_mono:=fun _ h=>h
  M_bound:=fun h=>h
  M_move:=fun _ h=>h
  M_lower:=fun _ h=>h
theorem Kd.C_ofRaw {α:Type}{d:Kd α}(z:α){w:World}{A:Option Addr}{n:Nat}{xs:List α}{vs:List (List Value)}(h:(kRaw d.sz).C w A n vs)(hl:xs.length=n)(hK:∀ i,i<n→d.K w (xs.getD i z) (vs.getD i [])):d.C w A n xs:=by
  obtain⟨h1,h2,h3⟩:=h
  refine⟨hl,h2,fun h0=>?_⟩
  obtain⟨ad,e,hc⟩:=h3 h0
  refine⟨ad,e,fun j p hj=>?_⟩
  have hj1:=(List.getElem?_eq_some_iff.1 hj).1
  have hj2:j<vs.length:=by omega
  obtain⟨c,a,b,cc⟩:=hc j _ (List.getElem?_eq_getElem hj2)
  have hk:=hK j (by omega)
  rw[List.getD_eq_getElem?_getD,hj,List.getD_eq_getElem?_getD,List.getElem?_eq_getElem hj2]at hk
  obtain⟨rfl,_⟩:=b
  exact⟨_,a,hk,cc⟩

section
variable {α : Type} {d : Kd α} {z : α} {e : Nat} {W0 W w w1 : World} {A A' : Option Addr} {n c m c' : Nat} {xs ys : List α}
end
theorem Kd.R_take {α:Type}{d:Kd α}{e:Nat}{w:World}{base:Nat}{ok:Nat→Prop}{A:Option Addr}{n c m:Nat}{xs:List α}(h:d.R e w base ok (.slice A n c) xs)(hm:m≤n):d.R e w base ok (.slice A m c) (xs.take m):=by
  obtain⟨h0,inner,ho,hr⟩:=h
  have hn:xs.length=n:=by
    rcases ho.2 with ⟨h1,h2⟩|⟨g,cap,cur,he,_⟩
    · injection h1 with _ h1; omega
    · injection he with _ h1; exact h1.symm
  have hlm:(xs.take m).length=m:=by rw[List.length_take]; omega
  have hms:m*d.sz≤n*d.sz:=Nat.mul_le_mul_right _ hm
  have hob:(Value.slice A m c).ownBlock=(Value.slice A n c).ownBlock:=by rw[ownB,ownB]
  refine⟨fun k hk=>h0 k (hob▸hk),inner.take (m*d.sz),⟨?_,?_⟩,?_,fun j p hj=>?_⟩
  · rw[List.length_take,ho.1,hn,hlm]; omega
  · rw[hlm]
    rcases ho.2 with ⟨h1,h2⟩|⟨g,cap,cur,he,hb,hh,hn2,hm2,hs,ht⟩
    · injection h1 with h1 h3 h4
      refine .inl ⟨?_,by omega⟩
      rw[h1,h4,show m=0 from by omega]
    · injection he with h1 h3 h4
      refine .inr ⟨g,cap,cur,?_,hb,hh,by omega,hm2,hs,?_⟩
      · rw[h1,h4]
      · rw[←ht,List.take_take,hn,Nat.min_eq_left hms]
  · rw[List.length_take,hr.1,hn,hlm]; omega
  · have hj1:=(List.getElem?_eq_some_iff.1 hj).1
    rw[hlm]at hj1
    rw[List.getElem?_take,if_pos hj1]at hj
    have:=hr.2 j p hj
    rw[List.drop_take,List.take_take]
    have h5:(j+1)*d.sz≤m*d.sz:=Nat.mul_le_mul_right _ hj1
    rw[Nat.succ_mul]at h5
    rw[Nat.min_eq_left (by omega)]
    rw[hob]
    exact this
theorem Kd.R_off {α:Type}{d:Kd α}{e:Nat}{w w1:World}{base:Nat}{ok:Nat→Prop}{v:Value}{xs:List α}(h:d.R e w base ok v xs){g t:Nat}{cs:Array Value}(hb:RX.Blk w g t cs)(hne:(e::d.E).contains t=false)(hg:w.grownBy w1 (some g)):d.R e w1 base ok v xs:=by
  have h2:=Kd.R_types h hb (fun q hq e=>by subst e; rw[List.contains_iff_mem.2 hq]at hne; cases hne)
  exact Kd.R_mono (Kd.R_grown h2 hg (fun k hk e=>by injection e with e; exact hk.2 e)) (fun _ hk=>hk.1)
theorem reps_raw {n:Nat}{w:World}{base:Nat}{ok:Nat→Prop}:∀ (vss:List (List Value)),(vss.all fun v=>v.length==n&&v.all fun u=>u.oneCell')=true→Reps ((kRaw n).M w base ok) n vss vss.flatten
  | [],_=>Reps.none _ _
  | v::r,h=>by
    simp only[List.all_cons,Bool.and_eq_true,beq_iff_eq]at h
    have hs:Reps ((kRaw n).M w base ok) n [v] v:=by
      have:=(Reps.none ((kRaw n).M w base ok) n).snoc (p:=v) (c:=v) ⟨rfl,h.1.1,fun u hu=>List.all_eq_true.1 h.1.2 u hu⟩ h.1.1
      simpa using this
    have:=Kd.reps_append hs (reps_raw r (by rw[h.2]))
    simpa using this
theorem C_lit1 {w:World}{A:Option Addr}{a:OpA}{vs:List (List Value)}(h:(kRaw 7).C w A 1 vs)(ha:kOp.K w a (vs.getD 0 [])):kOp.C w A 1 [a]:=
  Kd.C_ofRaw (d:=kOp) op0 h rfl fun i hi=>by
    obtain rfl:i=0:=by omega
    exact ha
structure Chg (S:Nat→Prop) (w w':World):Prop where
  os:w'.os=w.os
  tape:w'.tape=w.tape
  output:w'.output=w.output
  size:w.heap.size≤w'.heap.size
  k:∀ g,g<w.heap.size→¬S g→w'.heap[g]?=w.heap[g]?
section
variable {S S' : Nat → Prop} {w w1 w2 : World}
theorem Chg.refl (S:Nat→Prop)(w:World):Chg S w w:=⟨rfl,rfl,rfl,Nat.le_refl _,fun _ _ _=>rfl⟩
theorem Chg.below (h:Below w.heap.size w w1):Chg S w w1:=⟨h.os,h.tape,h.output,h.size,fun g hg _=>h.block g hg⟩
theorem Chg.grown {r:Option Nat}(h:w.grownBy w1 r)(hr:∀ k,r=some k→S k):Chg S w w1:=⟨h.os,h.tape,h.output,h.size,fun g hg hS=>h.block g hg fun e=>hS (hr g e.symm)⟩
theorem Chg.trans (h:Chg S w w1)(k:Chg S' w1 w2)(hi:∀ g,g<w.heap.size→S' g→S g):Chg S w w2:=
  ⟨k.os.trans h.os,k.tape.trans h.tape,k.output.trans h.output,Nat.le_trans h.size k.size,fun g hg hS=>(k.k g (Nat.lt_of_lt_of_le hg h.size) fun h2=>hS (hi g hg h2)).trans (h.k g hg hS)⟩
theorem Chg.imp (h:Chg S w w1)(hi:∀ g,S g→S' g):Chg S' w w1:=⟨h.os,h.tape,h.output,h.size,fun g hg hS=>h.k g hg fun h2=>hS (hi g h2)⟩
theorem Chg.lo (h:Chg S w w1){n:Nat}(hn:n≤w.heap.size)(hd:∀ g,S g→n≤g):Below n w w1:=⟨h.os,h.tape,h.output,h.size,fun g hg=>h.k g (Nat.lt_of_lt_of_le hg hn) fun h2=>absurd (hd g h2) (Nat.not_le.2 hg)⟩
theorem Chg.blk (h:Chg S w w1){g t:Nat}{cs:Array Value}(hb:RX.Blk w g t cs)(hn:¬S g):RX.Blk w1 g t cs:=(h.k g hb.lt hn).trans hb
theorem Chg.map (h:Chg S w w1){P:Program}{kt:TypeId}{R:MapR}{B:Nat}{L:List (Lit×DataW Unit)}(hm:MapL P kt R w B L)(hn:¬S B):MapL P kt R w1 B L:=by
  obtain⟨es,clock,hk,r⟩:=hm
  exact⟨es,clock,(h.k B (Array.getElem?_eq_some_iff.1 hk).1 hn).trans hk,r⟩
theorem Chg.R (h:Chg S w w1){α:Type}{d:Kd α}{e base:Nat}{ok:Nat→Prop}{v:Value}{xs:List α}(hR:d.R e w base ok v xs)(hd:∀ g,ok g→¬S g):d.R e w1 base ok v xs:=
  Kd.R_mono (Kd.R_move (Kd.R_bound hR) fun k hk=>h.k k hk.2.2.1 (hd k hk.1)) fun _ hk=>hk.1
theorem MapL.ne {P:Program}{kt:TypeId}{R:MapR}{B g t:Nat}{L:List (Lit×DataW Unit)}{cs:Array Value}(hm:MapL P kt R w B L)(hb:RX.Blk w g t cs):g≠B:=by
  rintro rfl
  obtain⟨es,clock,hk,_⟩:=hm
  rw[show w.heap[g]?=_ from hb]at hk
  cases hk
theorem MapL.blk {P:Program}{kt:TypeId}{R:MapR}{B g t:Nat}{L:List (Lit×DataW Unit)}{cs:Array Value}(hm:MapL P kt R w B L)(hb:RX.Blk w g t cs)(hg:w.grownBy w1 (some B)):RX.Blk w1 g t cs:=(hg.block g hb.lt fun e=>hm.ne hb (Option.some.inj e)).trans hb
theorem MapL.row {P:Program}{kt:TypeId}{R:MapR}{B:Nat}{L:List (Lit×DataW Unit)}(hm:MapL P kt R w B L){α:Type}{d:Kd α}{e base:Nat}{ok:Nat→Prop}{v:Value}{xs:List α}(hR:d.R e w base ok v xs)(hg:w.grownBy w1 (some B)):d.R e w1 base ok v xs:=
  Kd.R_mono (Kd.R_move (Kd.R_bound hR) fun k hk=>by
    obtain⟨_,_,h3,_,_,cells,hc⟩:=hk
    exact hg.block k h3 fun e=>hm.ne (show RX.Blk w k _ cells from hc) (Option.some.inj e)) fun _ hk=>hk.1
end
end Go.Proofs.YtlnnjfdonilgmaaGreatDoor.RX
