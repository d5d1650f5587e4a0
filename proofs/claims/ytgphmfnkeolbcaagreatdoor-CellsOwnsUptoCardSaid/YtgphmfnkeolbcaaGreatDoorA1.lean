import Derived.Test.YtgphmfnkeolbcaaGreatDoorKd
import Derived.Laws.Strings
import Derived.Laws.Strings3
import Derived.Laws.DeepStrings4
import Derived.Laws.BytesArg
import Derived.Laws.Cover4
import Derived.Laws.IdiomStrings
import Derived.Lib.OthersKept
import Derived.Laws.RangeString
import Derived.Laws.Entries
import Derived.Laws.Concat
import Derived.Test.YtgphmfnkeolbcaaGreatDoorRow
import Derived.Stop.Asserts
import Derived.Test.YtgphmfnkeolbcaaGreatDoorRX
import Derived.Test.YtgphmfnkeolbcaaGreatDoorProg
import Derived.LaidLaws
import Derived.LaidEql
import Derived.ChangeArms
import Derived.KernelRfl
import Derived.Test.YtgphmfnkeolbcaaGreatDoorShelf
import Derived.Shelf.Unicode.DecodeLastEight
/- Strings: an index, a cut, conversions, going over one. No condition. -/
set_option linter.unusedVariables false
set_option linter.unusedSimpArgs false
namespace Go.Proofs.YtgphmfnkeolbcaaGreatDoor.RX
open Go Go.RowKit Go.Proofs.YtgphmfnkeolbcaaGreatDoorW.PrintWords

theorem wr_i32 {x:Int}(h1: -2147483648≤x)(h2:x≤2147483647):Value.int .i32 (IntKind.i32.wrap x)=.int .i32 x:=by rw[IntWalk.i32_in x ⟨h1,h2⟩]
theorem wr_u8 {x:Int}(h1:0≤x)(h2:x≤255):Value.int .u8 (IntKind.u8.wrap x)=.int .u8 x:=by rw[IntWalk.u8_in x ⟨h1,h2⟩]
section
variable {P : Program} {l : Slots} {t ty : TypeId} {x lo hi y : Operand} {s : ByteArray} {k k' : IntKind} {w : World}
theorem runs_slice_slh {i j:Int}(ht:P.underlying t=some .string)(hx:ev l x=some (.string s))(hl:ev l lo=some (.int k i))(hh:ev l hi=some (.int k' j))(h0:0≤i)(h1:i≤j)(h2:j≤s.size):
    RunsAs P l (.slice t x (some lo) (some hi) none) ty (.string (s.extract i.toNat j.toNat)) w:=by
  intro o ho _
  have e1:evD l x=.string s:=by rw[evD,hx]; rfl
  have e2:evD l hi=.int k' j:=by rw[evD,hh]; rfl
  have e3:evD l lo=.int k i:=by rw[evD,hl]; rfl
  unfold execOp
  simp only[ho,e1,e2,e3,Option.map_none,Option.map_some,Sem.run_bind]
  rw[run_sliceAt_string _ _ _ _ _ _ ht,run_slice_string_if _ _ _ _ _ _ _ ht,if_pos ⟨by omega,h2⟩,if_pos ⟨h0,h1⟩]
  simp
theorem runs_index_s {i:Int}(ht:P.underlying t=some .string)(hx:ev l x=some (.string s))(hy:ev l y=some (.int k i))(h0:0≤i)(h1:i<s.size):
    RunsAs P l (.index t x y) ty (.int .u8 ((s.data.toList.getD i.toNat 0).toNat:Int)) w:=by
  refine runs_index hx hy ?_
  rw[run_index_string _ _ _ _ _ ht,dif_pos ⟨h0,h1⟩]
  have hlt:i.toNat<s.data.toList.length:=by rw[Array.length_toList]; have:s.data.size=s.size:=rfl; omega
  rw[List.getD_eq_getElem?_getD,List.getElem?_eq_getElem hlt]
  rfl
theorem runs_conv {src dst:TypeId}{v v':Value}(hx:ev l x=some v)(h:(convert src dst v).run P w=.ok v' w):RunsAs P l (.convert src dst x) ty v' w:=by
  intro o ho _
  have e1:evD l x=v:=by rw[evD,hx]; rfl
  unfold execOp
  simp only[ho,e1,Sem.run_bind,Sem.run_pure,Result.andThen_ok,h]
end
theorem run_sadd {P:Program}{t:TypeId}{a b:ByteArray}{w:World}(h:a.size+b.size≤9223372036854775807):(binOp .add t (.string a) (.string b)).run P w=.ok (.string (a++b)) w:=by rw[binOp_string_add]; exact run_string_add_sum w a b h
theorem add_plain (g j:Nat):(⟨g,0,none⟩:Addr).add j=⟨g,j,none⟩:=by unfold Addr.add; split<;>simp_all
theorem conv_bytesC {P:Program}{w:World}{src dst e n c:Nat}{A:Option Addr}{base:Nat}{ok:Nat→Prop}(xs:List Int)(hs:P.underlying src=some (.slice e))(he:P.underlying e=some (.int .u8))(hd:P.underlying dst=some .string)
    (h:(Kd.int .u8).R e w base ok (.slice A n c) xs):(convert src dst (.slice A n c)).run P w=.ok (.string (strOfNums xs)) w:=by
  obtain⟨hn,_⟩:=Kd.R_len h
  have hC:=Kd.R_C h
  cases A with
  | none=>
    obtain⟨_,_,_⟩:=hC
    obtain⟨inner,ho⟩:=Kd.R_own h
    rcases ho.2 with ⟨he',h0⟩|⟨g,cap,cur,he',_⟩
    · injection he' with _ h1 h2
      subst h1; subst h2
      have:xs=[]:=List.length_eq_zero_iff.1 hn.symm
      subst this
      rw[run_convert_bytes_nil w src e hs he 0 0 dst hd]; rfl
    · cases he'
  | some ad=>
    obtain⟨inner,ho⟩:=Kd.R_own h
    rcases ho.2 with ⟨he',h0⟩|⟨g,cap,cur,he',_,hh,_⟩
    · cases he'
    · injection he' with h1 h2 h3
      injection h1 with h1
      subst h1
      refine run_convert_bytes_arg w src e hs he g 0 n c xs hn.symm (fun i hi=>?_) dst hd
      obtain⟨ad',e1,hc⟩:=Kd.atI hC (i:=(i:Int)) (by omega) (by omega)
      injection e1 with e1
      subst e1
      have:=hc 0 _ rfl
      simp only[Int.toNat_natCast,Nat.mul_one]at this
      rw[add_plain]at this
      rw[Nat.zero_add]
      have e2:(⟨g,i,none⟩:Addr).add 0=⟨g,i,none⟩:=rfl
      rw[e2]at this
      rw[this]
      simp[rd]
theorem conv_runesC {P:Program}{w:World}{src dst e n c:Nat}{A:Option Addr}(xs:List Int)(hs:P.underlying src=some (.slice e))(he:P.underlying e=some (.int .i32))(hd:P.underlying dst=some .string)
    (h:(Kd.int .i32).C w A n xs):(convert src dst (.slice A n c)).run P w=.ok (.string (runesBytes xs)) w:=by
  obtain⟨hn,_,_⟩:=id h
  by_cases h0:n=0
  · subst h0
    have:xs=[]:=List.length_eq_zero_iff.1 hn
    subst this
    rw[run_convert_runes_string w src dst e _ _ _ hs he hd]
    cases A with
    | none=>rfl
    | some a=>exact run_runesToString w a 0 c [] (by simp[run_loadCells w a 0 (fun _=>undef) (fun j hj=>by omega)])
  · obtain⟨ad,rfl,_⟩:=Kd.atI h (i:=0) (by omega) (by omega)
    have:=run_convert_runes (P:=P) w src dst e ad n c xs (by omega) hs he hd (fun j hj=>by
      obtain⟨ad',e1,hc⟩:=Kd.atI h (i:=(j:Int)) (by omega) (by omega)
      injection e1 with e1
      subst e1
      have:=hc 0 _ rfl
      simp only[Int.toNat_natCast,Nat.mul_one]at this
      rw[RX.add_add,Nat.add_zero]at this
      rw[this]; simp[rd])
    rwa [List.take_of_length_le (by omega)]at this

section
variable {P : Program} {N : Nat} {ops : Array Oper} {qs : QS} {rest : List Oper} {o : Oper} {l : Slots} {w : World}
theorem XL_val (hg:gd ops l o=some true)(hd:okD N o.dst=true){v:Value}{w1:World}(hr:∀ a,Fr N l a→(execOp a.eval o).run P w=.ok (.value v) w1)(hn:XL P N ops rest qs (putS l o.dst v) w1):XL P N ops (o::rest) qs l w:=by
  intro a ha
  refine wpList_step fun K hK=>?_
  rw[if_pos (gd_ok ha hg)]
  unfold Oper.wp
  rw[hr a ha]
  exact hK _ _ (hn _ (ha.putS hd v))
theorem XL_range {t:TypeId}{x:Operand}{s:ByteArray}(ho:o.op=.range t x)(hg:gd ops l o=some true)(hd:okD N o.dst=true)(ht:P.underlying t=some .string)(hv:evs l [x]=some [.string s])
    (hn:∀ w1,Below w.heap.size w w1→w1.heap[w.heap.size]?=some (.stringIter s 0)→XL P N ops rest qs (putS l o.dst (.pointer (some ⟨w.heap.size,0,none⟩))) w1):XL P N ops (o::rest) qs l w:=by
  refine XL_val hg hd (v:=.pointer (some ⟨w.heap.size,0,none⟩)) (w1:=w.iter s 0) (fun a ha=>?_) (hn _ ((Below.refl _ _).alloc (Nat.le_refl _) _) (World.iter_heap w s 0))
  have he:=evs_ok ha _ _ hv
  simp only[List.map_cons,List.map_nil,List.cons.injEq,and_true]at he
  unfold execOp
  simp only[ho,he,Sem.run_bind,run_range_string w t s ht,Result.andThen_ok,Sem.run_pure]
theorem XL_next {x:Operand}{s:ByteArray}{g pos:Nat}(ho:o.op=.next x true)(hg:gd ops l o=some true)(hd:okD N o.dst=true)(hv:evs l [x]=some [.pointer (some ⟨g,0,none⟩)])(hk:w.heap[g]?=some (.stringIter s pos))
    (h1:pos<s.size→∀ w1,w.grownBy w1 (some g)→w1.heap[g]?=some (.stringIter s (pos+(Utf8.decode s pos).2))→XL P N ops rest qs (putS l o.dst (.tuple #[.bool true,.int .i64 (pos:Int),.int .i32 ((Utf8.decode s pos).1:Int)])) w1)
    (h2:¬pos<s.size→XL P N ops rest qs (putS l o.dst (.tuple #[.bool false])) w):XL P N ops (o::rest) qs l w:=by
  by_cases hp:pos<s.size
  · refine XL_val hg hd (w1:=w.iterAt g s (pos+(Utf8.decode s pos).2)) (fun a ha=>?_) (h1 hp _ ⟨rfl,rfl,rfl,by simp[World.iterAt],fun k hkl hne=>?_⟩ (Lib.iterAt_heap w g s pos _ hk))
    · have he:=evs_ok ha _ _ hv
      simp only[List.map_cons,List.map_nil,List.cons.injEq,and_true]at he
      unfold execOp
      simp only[ho,he,Sem.run_bind,Lib.run_next_any_at w g s pos _ hk hp,Result.andThen_ok,Sem.run_pure]
    · simp only[World.iterAt]
      rw[Array.getElem?_setIfInBounds_ne]
      intro e; subst e; exact hne rfl
  · refine XL_val hg hd (w1:=w) (fun a ha=>?_) (h2 hp)
    have he:=evs_ok ha _ _ hv
    simp only[List.map_cons,List.map_nil,List.cons.injEq,and_true]at he
    unfold execOp
    simp only[ho,he,Sem.run_bind,Lib.run_next_end_at w g s pos _ hk hp,Result.andThen_ok,Sem.run_pure]
end
end Go.Proofs.YtgphmfnkeolbcaaGreatDoor.RX
set_option linter.unusedVariables false
set_option linter.unusedSimpArgs false
namespace Go.Proofs.YtgphmfnkeolbcaaGreatDoor.RX
open Go Go.RowKit Go.Proofs.YtgphmfnkeolbcaaGreatDoorW.PrintWords
section
variable {P : Program} {N : Nat} {ops : Array Oper} {qs : QS} {rest : List Oper} {o : Oper} {l : Slots} {α : Type}
theorem XL_makeCap (d:Kd α){w:World}{t:TypeId}{x y:Operand}(ho:o.op=.makeSlice t x y)(hg:gd ops l o=some true)(hd:okD N o.dst=true)(e:Nat)(z:Value)(bytes:Nat)(m:Int)
    (hv:evs l [x,y]=some [.int .i64 0,.int .i64 m]) (ht:P.underlying t=some (.slice e)) (hinfo:(P.info? e).map (fun i=>(i.zero,i.size,i.bytes))=some (some z,d.sz,bytes)) (hz:z.cells.size=d.sz) (hs0:0<d.sz) (hb0:0<bytes)
    (z0:α) (hzero:d.M w w.heap.size (fun _=>False) z0 z.cells.toList) (h0:0≤m) (hl:m.toNat*bytes≤281474976710656)
    (hn:∀ A c w1,d.R e w1 w.heap.size (OkFrom w.heap.size) (.slice A 0 c) []→m.toNat≤c→Below w.heap.size w w1→XL P N ops rest qs (putS l o.dst (.slice A 0 c)) w1):XL P N ops (o::rest) qs l w:=by
  obtain⟨m,rfl⟩:=Int.eq_ofNat_of_zero_le h0
  simp only[Int.toNat_natCast]at hl hn
  obtain⟨i0,hi,hzz⟩:=Option.map_eq_some_iff.1 hinfo
  simp only[Prod.mk.injEq]at hzz
  obtain⟨hz0,hz1,hz2⟩:=hzz
  have hm:m≤281474976710656:=Nat.le_trans (Nat.le_mul_of_pos_right _ hb0) hl
  have hr:=run_make (P:=P) w t e i0 z ht hi hz0 .i64 .i64 0 (m:Int) (by omega) (by omega)
    (by
      have h3:((i0.bytes*m:Nat):Int)≤281474976710656:=by rw[hz2,Nat.mul_comm]; omega
      rwa [Int.natCast_mul]at h3) (by omega)
  simp only[Int.toNat_natCast,Int.toNat_zero]at hr
  rw[hz1]at hr
  obtain⟨w1,hw,hb,hk,hs⟩:=new_world w (madeCells z.cells (m*d.sz)) e
  rw[hw]at hr
  have hR:d.R e w1 w.heap.size (OkFrom w.heap.size) (.slice (some ⟨w.heap.size,0,none⟩) (List.replicate m z0).length (List.replicate m z0).length) (List.replicate m z0):=
    Kd.R_litB d _ hk (Kd.reps_made hz hs0 (Kd.M_below hzero hb) m) (by rw[List.length_replicate]; omega)
  rw[List.length_replicate]at hR
  have hR0:=Kd.R_take hR (Nat.zero_le m)
  rw[List.take_zero]at hR0
  refine XL_val hg hd (fun a ha=>?_) (hn _ m w1 hR0 (Nat.le_refl _) hb)
  have he:=evs_ok ha _ _ hv
  simp only[List.map_cons,List.map_nil,List.cons.injEq,and_true]at he
  simp[execOp,ho,he.1,he.2,hr]
end
end Go.Proofs.YtgphmfnkeolbcaaGreatDoor.RX
namespace Go.Proofs.YtgphmfnkeolbcaaGreatDoor
open Go Go.RowKit Go.Proofs.YtgphmfnkeolbcaaGreatDoorW.PrintWords RX
theorem kPiece_insM {w:World}{base:Nat}{ok:Nat→Prop}{a:List At}{t:ByteArray}{n:Int}{cs:List Value}(h:kPiece.M w base ok (.ins a t n) cs):∃ A c,cs=[.iface 249 (.agg #[.slice A a.length c,.string t,.int .i64 n])]∧a.length≤c∧kAttr.R 57 w base ok (.slice A a.length c) a:=by
  obtain⟨_,⟨_,_,rfl,⟨v,rfl,hR⟩,_,_,rfl,rfl,rfl⟩,rfl⟩:=h
  obtain⟨A,c,rfl,hl,_⟩:=Kd.R_reads hR
  exact⟨A,c,rfl,hl,hR⟩
theorem kPiece_embM {w:World}{base:Nat}{ok:Nat→Prop}{a:List At}{k:ByteArray}{v:Int×Int×ByteArray}{cs:List Value}(h:kPiece.M w base ok (.emb a k v) cs):∃ A c,cs=[.iface 253 (.agg #[.slice A a.length c,.string k,valV v])]∧a.length≤c∧kAttr.R 57 w base ok (.slice A a.length c) a:=by
  obtain⟨_,⟨_,_,rfl,⟨v,rfl,hR⟩,_,_,rfl,rfl,rfl⟩,rfl⟩:=h
  obtain⟨A,c,rfl,hl,_⟩:=Kd.R_reads hR
  exact⟨A,c,rfl,hl,hR⟩
theorem kPiece_retM {w:World}{base:Nat}{ok:Nat→Prop}{a:List At}{n:Int}{cs:List Value}(h:kPiece.M w base ok (.ret a n) cs):∃ A c,cs=[.iface 128 (.agg #[.slice A a.length c,.int .i64 n])]∧a.length≤c∧kAttr.R 57 w base ok (.slice A a.length c) a:=by
  obtain⟨_,⟨_,_,rfl,⟨v,rfl,hR⟩,rfl⟩,rfl⟩:=h
  obtain⟨A,c,rfl,hl,_⟩:=Kd.R_reads hR
  exact⟨A,c,rfl,hl,hR⟩
end Go.Proofs.YtgphmfnkeolbcaaGreatDoor
namespace Go.Proofs.YtgphmfnkeolbcaaGreatDoor.RX
open Go Go.RowKit
abbrev Rt (f:FuncId)(args:Array Value)(w:World)(v:Value):Prop:=Calls Tryz.prog f args w fun e w'=>e=.returned v∧Below w.heap.size w w'
abbrev la (t:TypeId)(p:Addr)(v:Value)(w:World):Prop:=LoadsAs Tryz.prog t p v w
theorem lc (t:TypeId){w:World}{g:Nat}{bt:TypeId}{cs:Array Value}(h:Blk w g bt cs)(i:Nat){v:Value}(hi:cs[i]?=some v:=by rfl)(ht:plainT Tryz.prog t=true:=by rfl):LoadsAs Tryz.prog t ⟨g,i,none⟩ v w:=loads1 ht (Blk.cell h i _ hi)
end Go.Proofs.YtgphmfnkeolbcaaGreatDoor.RX
set_option linter.unusedVariables false
set_option linter.unusedSimpArgs false
set_option maxRecDepth 100000
namespace Go.Proofs.YtgphmfnkeolbcaaGreatDoor
open Go Go.RowKit RX

def errG :List Nat:=[6,7,8,9,5,4,10,11,0,12,
  3,1,13,2,14,15,16,17,18]

def errAt (es:List Addr)(n:Nat):Addr:=es.getD (n-1) ⟨0,0,none⟩
abbrev ev (es:List Addr)(n:Nat):Value:=.iface 301 (.pointer (some (errAt es n)))
def errV (es:List Addr)(n:Nat):Value:=if n=0 then .nilIface else .iface 301 (.pointer (some (errAt es n)))
theorem errV_zero (es:List Addr):errV es 0=.nilIface:=rfl
theorem errV_pos (es:List Addr)(n:Nat)(h:0<n):errV es n=.iface 301 (.pointer (some (errAt es n))):=if_neg (by omega)

abbrev errD (text:List UInt8):DataW Unit:=.iface "*errors.errorString" (.ptr (.agg [.lit (.string text)]))
theorem errStar : "*" ++ "errors.errorString" = "*errors.errorString" := by decide
theorem errRow (u:TypeId)(h:Tryz.prog.typeName? 3 u=some "*errors.errorString"):u=301:=
  typeName_ptr_named (nm:= "errors.errorString") (by rw[errStar]; kernel_rfl) (by kernel_rfl) (by decide) u (by rw[errStar]; exact h)
theorem errC1 :Tryz.prog.cellsOf 318=1:=by kernel_rfl
theorem errC2 :Tryz.prog.cellsOf 9=1:=by kernel_rfl

theorem errs_vars {W:World}:∀ (l:List (String×DataW Unit)) (ps:List MemPlace),DataW.LaidVars Tryz.prog W l ps→ps.Nodup→
    (∀ b off,MemPlace.cell b off∈ps→(∃ c t,W.heap[b]?=some (.cells c t (0,0)))∧∀ u v,W.cell? ⟨b,off,none⟩=some (.iface u v)→Value.okWide Tryz.prog W .any 0 u v)→
    (∀ x∈l,∃ g text,Tryz.prog.globalNamed x.1=some g∧(Tryz.prog.globals[g]?).map (·.type)=some 35∧x.2=errD text)→
    ∃ es:List Addr,es.length=l.length∧(∀ (i g:Nat) (a:Addr) n d,l[i]?=some (n,d)→Tryz.prog.globalNamed n=some g→es[i]?=some a→W.cell? ⟨g,0,none⟩=some (.iface 301 (.pointer (some a))))∧
      (∀ (i:Nat) a,es[i]?=some a→MemPlace.cell a.block a.off∈ps)∧(∀ (i j:Nat) (a:Addr),es[i]?=some a→es[j]?=some a→i=j)
  | [],ps,_,_,_,_=>⟨[],rfl,fun i g a n d h=>by simp at h,fun i a h=>by simp at h,fun i j a h=>by simp at h⟩
  | (n,d)::r,ps,h,hnd,hok,hl=>by
    obtain⟨g,t,cs,fuel,p,q,hg,ht,hv,hd,hr,rfl⟩:=h
    obtain⟨g',text,hg',ht',hdat⟩:=hl (n,d) (by simp)
    obtain rfl:=Option.some.inj (hg'.symm.trans hg)
    obtain rfl:=Option.some.inj (ht'.symm.trans ht)
    dsimp only at hdat
    subst hdat
    obtain⟨l0⟩:=cs
    rw[List.nodup_append]at hnd
    obtain⟨hnd1,hndq,hdis⟩:=hnd
    obtain⟨a,s,e1,hc,_,_,rfl⟩:=errorString_of_trod Tryz.underlying35 errRow Tryz.underlying301 Tryz.underlying318 rfl rfl Tryz.underlying9 errC1 errC2 hd (fun u v e=>by
      dsimp only at e
      subst e
      exact(hok g' 0 (by simp[MemPlace.row])).2 u v (by simpa using World.var?_cell hg hv 0))
    dsimp only at e1
    subst e1
    obtain⟨es,hlen,hcell,hin,hdup⟩:=errs_vars r q hr hndq (fun b off hb=>hok b off (by simp[hb])) (fun x hx=>hl x (by simp[hx]))
    refine⟨a::es,by simp[hlen],?_,?_,?_⟩
    · intro i g2 a2 n2 d2 h1 h2 h3
      cases i with
      | zero=>
        simp only[List.getElem?_cons_zero,Option.some.injEq,Prod.mk.injEq]at h1 h3
        obtain⟨rfl,rfl⟩:=h1
        subst h3
        obtain rfl:=Option.some.inj (h2.symm.trans hg)
        simpa using World.var?_cell hg hv 0
      | succ i=>exact hcell i g2 a2 n2 d2 (by simpa using h1) h2 (by simpa using h3)
    · intro i a2 h1
      cases i with
      | zero=>
        simp only[List.getElem?_cons_zero,Option.some.injEq]at h1
        subst h1
        simp[MemPlace.row]
      | succ i=>have:=hin i a2 (by simpa using h1); simp[this]
    · have hout:∀ (i:Nat) b,es[i]?=some b→b≠a:=by
        rintro i b h1 rfl
        exact hdis _ (by simp[MemPlace.row]) _ (hin i b h1) rfl
      intro i j b h1 h2
      cases i with
      | zero=>
        cases j with
        | zero=>rfl
        | succ j=>
          simp only[List.getElem?_cons_zero,Option.some.injEq]at h1
          exact absurd h1.symm (hout j b (by simpa using h2))
      | succ i=>
        cases j with
        | zero=>
          simp only[List.getElem?_cons_zero,Option.some.injEq]at h2
          exact absurd h2.symm (hout i b (by simpa using h1))
        | succ j=>exact congrArg (· +1) (hdup i j b (by simpa using h1) (by simpa using h2))

theorem laid_sub {W:World}:∀ {l l':List (String×DataW Unit)},l'.Sublist l→∀ {ps:List MemPlace},DataW.LaidVars Tryz.prog W l ps→∃ ps',DataW.LaidVars Tryz.prog W l' ps'∧ps'.Sublist ps:=by
  intro l l' hs
  induction hs with
  | slnil=>intro ps h; exact⟨ps,h,List.Sublist.refl _⟩
  | cons a hs ih=>
    intro ps h
    obtain⟨n,d⟩:=a
    obtain⟨g,t,cs,fuel,p,q,hg,ht,hv,hd,hr,rfl⟩:=h
    obtain⟨ps',h1,h2⟩:=ih hr
    exact⟨ps',h1,h2.trans (List.sublist_append_right _ _)⟩
  | cons_cons a hs ih=>
    intro ps h
    obtain⟨n,d⟩:=a
    obtain⟨g,t,cs,fuel,p,q,hg,ht,hv,hd,hr,rfl⟩:=h
    obtain⟨ps',h1,h2⟩:=ih hr
    exact⟨_,⟨g,t,cs,fuel,p,ps',hg,ht,hv,hd,h1,rfl⟩,h2.append_left _⟩
theorem errs_part {W:World}{l l':List (String×DataW Unit)}(h:laidMet Tryz.prog l W)(hs:l'.Sublist l)
    (hl:∀ x∈l',∃ g text,Tryz.prog.globalNamed x.1=some g∧(Tryz.prog.globals[g]?).map (·.type)=some 35∧x.2=errD text):
    ∃ es:List Addr,es.length=l'.length∧(∀ (i g:Nat) (a:Addr) n d,l'[i]?=some (n,d)→Tryz.prog.globalNamed n=some g→es[i]?=some a→W.cell? ⟨g,0,none⟩=some (.iface 301 (.pointer (some a))))∧
      (∀ (i:Nat) a,es[i]?=some a→∃ c t,W.heap[a.block]?=some (.cells c t (0,0)))∧(∀ (i j:Nat) (a:Addr),es[i]?=some a→es[j]?=some a→i=j):=by
  obtain⟨ps,hv,hnd,hok⟩:=h
  obtain⟨ps',hv',hsub⟩:=laid_sub hs hv
  obtain⟨es,h1,h2,h3,h4⟩:=errs_vars l' ps' hv' (hnd.sublist hsub) (fun b off hb=>hok b off (hsub.subset hb)) hl
  exact⟨es,h1,h2,fun i a hi=>(hok _ _ (hsub.subset (h3 i a hi))).1,h4⟩
def permE (perm:List Nat)(es:List Addr):List Addr:=perm.map fun i=>es.getD i ⟨0,0,none⟩
theorem permE_at {perm:List Nat}{es:List Addr}{i j:Nat}{a:Addr}(h1:perm[i]?=some j)(h2:es[j]?=some a):(permE perm es)[i]?=some a:=by
  unfold permE
  rw[List.getElem?_map,h1]
  simp[List.getD_eq_getElem?_getD,h2]
structure ErrsOn (E:List Nat) (w:World) (es:List Addr):Prop where
  cell:∀ n g:Nat,n∈E→errG[n-1]?=some g→w.cell? ⟨g,0,none⟩=some (.iface 301 (.pointer (some (errAt es n))))
theorem ErrsOn.sub {E E':List Nat}{w:World}{es:List Addr}(h:ErrsOn E w es)(hs:(E'.all fun n=>E.contains n)=true):ErrsOn E' w es:=
  ⟨fun n g hn hg=>h.cell n g (List.contains_iff_mem.1 (List.all_eq_true.1 hs n hn)) hg⟩
theorem ErrsOn.load {E:List Nat}{w:World}{es:List Addr}(h:ErrsOn E w es)(n g:Nat)(hn:n∈E)(h1:n≤19)(hg:errG[n-1]?=some g):w.cell? ⟨g,0,none⟩=some (.iface 301 (.pointer (some (errAt es n)))):=h.cell n g hn hg
theorem ErrsOn.below {E:List Nat}{w w1:World}{es:List Addr}(h:ErrsOn E w es)(hb:Below w.heap.size w w1):ErrsOn E w1 es:=
  ⟨fun n g hn hg=>(hb.cell (World.block_lt_of_cell? _ _ (h.cell n g hn hg))).trans (h.cell n g hn hg)⟩
theorem errsOn_of {W:World}{E:List Nat}{l l':List (String×DataW Unit)}(h:laidMet Tryz.prog l W)(hs:l'.Sublist l)
    (hl:∀ x∈l',∃ g text,Tryz.prog.globalNamed x.1=some g∧(Tryz.prog.globals[g]?).map (·.type)=some 35∧x.2=errD text) (perm:List Nat)
    (hp:∀ n∈E,∃ i g nm d,perm[n-1]?=some i∧l'[i]?=some (nm,d)∧Tryz.prog.globalNamed nm=some g∧errG[n-1]?=some g):∃ es,ErrsOn E W es:=by
  obtain⟨es,h1,h2,_,_⟩:=errs_part h hs hl
  refine⟨permE perm es,⟨fun n g hn hg=>?_⟩⟩
  obtain⟨i,g',nm,d,e1,e2,e3,e4⟩:=hp n hn
  obtain rfl:=Option.some.inj (e4.symm.trans hg)
  have hi:i<es.length:=by rw[h1]; exact(List.getElem?_eq_some_iff.1 e2).1
  have:=h2 i g' es[i] nm d e2 e3 (List.getElem?_eq_getElem hi)
  unfold errAt
  rw[List.getD_eq_getElem?_getD,permE_at e1 (List.getElem?_eq_getElem hi)]
  exact this
end Go.Proofs.YtgphmfnkeolbcaaGreatDoor
set_option linter.unusedVariables false
set_option linter.unusedSimpArgs false
set_option maxRecDepth 100000
namespace Go.Proofs.YtgphmfnkeolbcaaGreatDoor
open Go Go.RowKit RX
theorem ent217 :Ent Tryz.prog 217:=ent_of Tryz.func217 (by kernel_rfl) rfl
theorem ent189 :Ent Tryz.prog 189:=ent_of Tryz.func189 (by kernel_rfl) rfl
theorem ent145 :Ent Tryz.prog 145:=ent_of Tryz.func145 (by kernel_rfl) rfl
abbrev ErrsA (w:World)(es:List Addr):Prop:=ErrsOn [1,5,6,7,8,10] w es
abbrev Tabs (w:World):Prop:=Lib.Utf8Tabs 19 20 w
def nextP (s:ByteArray):Nat×Nat:=if (Lib.decodeGo s).1=65533∧(Lib.decodeGo s).2<2 then (0,0)else Lib.decodeGo s
theorem next_any (s:ByteArray)(w:World)(hT:Tabs w):Rt 189 #[sT s] w (.tuple #[.int .i32 ((nextP s).1:Int),i6 ((nextP s).2:Int)]):=by
 refine en Tryz.func189 rfl 19 [(0,sT s)] (fun R_ hR_=>?_)
 refine sg (xe0 2 [(0,sT s)] ?_)
 refine nl (sg (xe0 1 [(7,sT s)] ?_))
 refine xc 217 ent217 [sT s] (Tryz.utf8_DecodeRuneInString s _ hT) ?_
 rintro e w_1 ⟨rfl,b2⟩; refine⟨_,rfl,?_⟩
 refine xe0 5 [(4,.int .i32 ((Lib.decodeGo s).1:Int)),(5,i6 ((Lib.decodeGo s).2:Int))] ?_
 refine nl (sq (sg (xr0 1 [(11,.int .i32 ((Lib.decodeGo s).1:Int))] [] ?_)))
 by_cases c3:((Lib.decodeGo s).1:Int)=65533
 ·refine xr1 3 [(12,.eq bT)] [(13,bT),(14,i6 ((Lib.decodeGo s).2:Int))] [11] (bE c3) ?_
  by_cases c4:((Lib.decodeGo s).2:Int)<2
  ·refine xr1 2 [(15,.eq bT)] [(16,bT)] [13,14] (dT c4) ?_
   refine nl (ct (sg (xe0 2 [(2,.int .i32 0),(3,i6 0)] ?_)))
   refine nl (X_ret (rj [.int .i32 0,i6 0] hR_ ?_))
   rw[show nextP s=(0,0)from if_pos (by omega)]
   exact⟨rfl,b2⟩
  refine xr1 2 [(15,.eq bF)] [(16,bF)] [13,14] (dF c4) ?_
  refine nl (cf (sk (sg (xe0 4 [(2,.int .i32 ((Lib.decodeGo s).1:Int)),(3,i6 ((Lib.decodeGo s).2:Int))] ?_))))
  refine nl (X_ret (rj [.int .i32 ((Lib.decodeGo s).1:Int),i6 ((Lib.decodeGo s).2:Int)] hR_ ?_))
  rw[show nextP s=Lib.decodeGo s from if_neg (by omega)]
  exact⟨rfl,b2⟩
 refine xr1 5 [(12,.eq bF)] [(16,bF)] [11] (bN c3) ?_
 refine nl (cf (sk (sg (xe0 4 [(2,.int .i32 ((Lib.decodeGo s).1:Int)),(3,i6 ((Lib.decodeGo s).2:Int))] ?_))))
 refine nl (X_ret (rj [.int .i32 ((Lib.decodeGo s).1:Int),i6 ((Lib.decodeGo s).2:Int)] hR_ ?_))
 rw[show nextP s=Lib.decodeGo s from if_neg (by omega)]
 exact⟨rfl,b2⟩
theorem Tabs.below {w w1:World}(h:Tabs w)(hb:Below w.heap.size w w1):Tabs w1:=
 ⟨fun c hc=>(hb.cell (World.block_lt_of_cell? _ _ (h.1 c hc))).trans (h.1 c hc),fun i hi=>⟨(hb.cell (World.block_lt_of_cell? _ _ (h.2 i hi).1)).trans (h.2 i hi).1,(hb.cell (World.block_lt_of_cell? _ _ (h.2 i hi).2)).trans (h.2 i hi).2⟩⟩
theorem nextP_le (s:ByteArray):(nextP s).2≤s.size:=by
 unfold nextP
 split
 ·exact Nat.zero_le _
 exact Go.Lib.decodeGo_le_size s
def uloop (s:ByteArray):Nat→Nat→Nat×Bool
 | 0,k=>(k,true)
 | f+1,k=>if k<s.size then (if (nextP (s.extract k s.size)).2=0 then (k,false)else uloop s f (k+(nextP (s.extract k s.size)).2))else (k,true)
def uchk (s:ByteArray):Nat×Bool:=uloop s s.size 0
theorem uloop_fuel (s:ByteArray):∀ (f g k:Nat),s.size-k≤f→s.size-k≤g→uloop s f k=uloop s g k
 | 0,0,k,_,_=>rfl
 | 0,g+1,k,h,_=>by simp only[uloop]; rw[if_neg (by omega)]
 | f+1,0,k,_,h=>by simp only[uloop]; rw[if_neg (by omega)]
 | f+1,g+1,k,h1,h2=>by
  simp only[uloop]
  split
  ·split
   ·rfl
   exact uloop_fuel s f g _ (by omega) (by omega)
  rfl
theorem uloop_step (s:ByteArray)(k:Nat)(h:k<s.size)(h0:(nextP (s.extract k s.size)).2≠0):uloop s s.size k=uloop s s.size (k+(nextP (s.extract k s.size)).2):=by
 rw[uloop_fuel s s.size (s.size+1) k (by omega) (by omega)]
 simp only[uloop]
 rw[if_pos h,if_neg h0]
theorem uloop_bad (s:ByteArray)(k:Nat)(h:k<s.size)(h0:(nextP (s.extract k s.size)).2=0):uloop s s.size k=(k,false):=by
 rw[uloop_fuel s s.size (s.size+1) k (by omega) (by omega)]
 simp only[uloop]
 rw[if_pos h,if_pos h0]
theorem uloop_end (s:ByteArray)(k:Nat)(h:¬k<s.size):uloop s s.size k=(k,true):=by
 rw[uloop_fuel s s.size (s.size+1) k (by omega) (by omega)]
 simp only[uloop]
 rw[if_neg h]
theorem scheck_any (s:ByteArray)(w:World)(hs:s.size≤9223372036854775807)(hT:Tabs w)(es:List Addr)(hE:ErrsA w es):Rt 145 #[sT s] w (.tuple #[i6 ((uchk s).1:Int),errV es (if (uchk s).2 then 0 else 1)]):=by
 refine en Tryz.func145 rfl 26 [(0,sT s)] (fun R_ hR_=>?_)
 refine sg (xe0 2 [(0,sT s)] ?_)
 refine nl (sg (xr0 1 [(4,i6 0)] [] ?_))
 refine nl (sq (bk (X_loop (ι:=Nat) (fun k=>[(0,sT s),(4,i6 (k:Int))]) (fun k wl=>k≤s.size∧uloop s s.size k=uchk s∧Below w.heap.size w wl) (fun k=>s.size-k) 0 ⟨by omega,rfl,(Below.refl _ _)⟩ (by kernel_rfl) ?_)))
 rintro k wl ⟨hk,hk2,HB⟩
 refine sq (sg (xr0 3 [(7,nv k),(9,i6 (s.size:Int))] [] ?_))
 by_cases c1:(k:Int)<(s.size:Int)
 ·refine xr1 1 [(10,.eq bT)] [(10,bT)] [7,9] (dT c1) ?_
  refine nl (ct (sk (bk (sg (xr 3 [(14,.as (sT (s.extract k s.size)))] [(14,sT (s.extract k s.size))] [10] [RunsAs Tryz.prog [(12,sT s),(13,i6 (k:Int))] (Go.Op.slice 9 (Go.Operand.tmp 12) (some (Go.Operand.tmp 13)) none none) 9 (sT (s.extract k s.size)) wl] ⟨runs_slice_sl (h:=(k:Int)) Tryz.underlying9 rfl rfl (by omega) (by omega),trivial⟩ ?_)))))
  have hn:=nextP_le (s.extract k s.size)
  have hz:(s.extract k s.size).size=s.size-k:=by simp
  refine xc 189 ent189 [sT (s.extract k s.size)] (next_any (s.extract k s.size) _ (hT.below HB)) ?_
  rintro e w2 ⟨rfl,b3⟩; refine⟨_,rfl,?_⟩
  refine xr0 5 [(6,i6 ((nextP (s.extract k s.size)).2:Int))] [14,15] ?_
  refine nl (sq (sg (xr0 1 [(18,i6 ((nextP (s.extract k s.size)).2:Int))] [] ?_)))
  by_cases c4:((nextP (s.extract k s.size)).2:Int)=0
  ·refine xe1 1 [(19,.eq bT)] [(0,sT s),(4,nv k),(6,i6 ((nextP (s.extract k s.size)).2:Int)),(19,bT)] (bE c4) ?_
   refine nl (ct (sq (X_still (by kernel_rfl) (by kernel_rfl) (fun wd5 b6 h7=>?_))))
   refine xsC 4 [(21,.load (ev es 1))] [(2,nv k),(3,ev es 1)] [0,4,6,19] [la 35 (⟨6,0,none⟩) (ev es 1) wd5] ⟨loads1 rfl (((bt (bt HB b3) b6).cell (World.block_lt_of_cell? _ _ (hE.load 1 6 (by decide) (by decide) rfl))).trans (hE.load 1 6 (by decide) (by decide) rfl)),trivial⟩ ?_
   refine XS_nil ?_
   refine X_ret (rj [i6 (k:Int),ev es 1] hR_ ?_)
   rw[←hk2,uloop_bad s k (by omega) (by omega)]
   exact⟨rfl,(bt (bt HB b3) b6)⟩
  refine xe1 1 [(19,.eq bF)] [(0,sT s),(4,nv k),(6,i6 ((nextP (s.extract k s.size)).2:Int)),(19,bF)] (bN c4) ?_
  refine nl (cf (sk (rg (xr1 4 [(24,.eq (i6 ((k:Int)+((nextP (s.extract k s.size)).2:Int))))] [(4,i6 ((k:Int)+((nextP (s.extract k s.size)).2:Int)))] [6,19] (w6 ((k:Int)+((nextP (s.extract k s.size)).2:Int))) ?_))))
  refine nl ?_
  refine⟨(k+(nextP (s.extract k s.size)).2),by kernel_rfl,?_,?_⟩
  ·exact⟨by omega,by rw[←hk2]; exact(uloop_step s k (by omega) (by omega)).symm,(bt HB b3)⟩
  (try dsimp only); omega
 refine xr1 1 [(10,.eq bF)] [(10,bF)] [7,9] (dF c1) ?_
 refine nl (cf (X_exit (sg (xe0 3 [(2,nv k),(3,.nilIface)] ?_))))
 refine nl (X_ret (rj [i6 (k:Int),.nilIface] hR_ ?_))
 rw[←hk2,uloop_end s k (by omega)]
 exact⟨rfl,HB⟩
end Go.Proofs.YtgphmfnkeolbcaaGreatDoor
