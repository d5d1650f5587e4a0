import Derived.Test.YtlnnjfdonilgmaaGreatDoorRX
import Derived.Test.YtlnnjfdonilgmaaGreatDoorWWords
import Derived.Laws.Strings
import Derived.Laws.Strings3
import Derived.Laws.DeepStrings4
import Derived.Laws.BytesArg
import Derived.Laws.Cover4
import Derived.Laws.IdiomStrings
import Derived.Lib.OthersKept
import Derived.Laws.RangeString
import Derived.Laws.Entries
import Derived.Laws.Concat
import Derived.Maps.Own
import Derived.Maps.Views
/- Slices as the text-following wants them: read, made, appended to, written, cut. No condition. -/
set_option linter.unusedVariables false
set_option linter.unusedSimpArgs false
namespace Go.Proofs.YtlnnjfdonilgmaaGreatDoor.RX
open Go Go.RowKit Go.Proofs.YtlnnjfdonilgmaaGreatDoorW.PrintWords

theorem max_eq (a b:Int):(if b>a then b else a)=max a b:=by omega
theorem min_eq (a b:Int):(if b<a then b else a)=min a b:=by omega
theorem Kd.atC {α:Type}{d:Kd α}{w:World}{A:Option Addr}{n:Nat}{xs:List α}(h:d.C w A n xs)(z:α){i:Int}(h0:0≤i)(h1:i<n):∃ ad c,A=some ad∧d.K w (xs.getD i.toNat z) c∧CellsAt w (ad.add (i.toNat*d.sz)) c:=by
  obtain⟨ad,c,e,_,hK,hc⟩:=Kd.C_get h z i h0 h1
  exact⟨ad,c,e,hK,fun j u hu=>by rw[add_add]; exact hc j u hu⟩
theorem Kd.atI {k:IntKind}{w:World}{A:Option Addr}{n:Nat}{xs:List Int}(h:(Kd.int k).C w A n xs){i:Int}(h0:0≤i)(h1:i<n):∃ ad,A=some ad∧CellsAt w (ad.add (i.toNat*1)) [.int k (rd xs i)]:=by
  obtain⟨ad,c,e,hK,hc⟩:=Kd.atC h 0 h0 h1
  obtain rfl:c=[.int k (rd xs i)]:=hK
  exact⟨ad,e,hc⟩

theorem Kd.C_take {α:Type}{d:Kd α}{w:World}{A:Option Addr}{n m:Nat}{xs:List α}(h:d.C w A n xs)(hm:m≤n):d.C w A m (xs.take m):=by
  obtain⟨h1,h2,h3⟩:=h
  refine⟨by simp[h1,hm],by omega,fun h0=>?_⟩
  obtain⟨ad,e,hc⟩:=h3 (by omega)
  refine⟨ad,e,fun j p hj=>hc j p ?_⟩
  rw[List.getElem?_take]at hj
  split at hj
  · exact hj
  · cases hj
def OkFrom (B:Nat):Nat→Prop:=fun k=>B≤k
theorem Kd.R_C {α:Type}{d:Kd α}{e:Nat}{w:World}{base:Nat}{ok:Nat→Prop}{A:Option Addr}{n c:Nat}{xs:List α}(h:d.R e w base ok (.slice A n c) xs):d.C w A n xs:=by
  obtain⟨A',c',he,_,hC⟩:=Kd.R_reads h
  injection he with h1 h2 h3
  subst h1; subst h2
  exact hC
theorem Kd.R_len {α:Type}{d:Kd α}{e:Nat}{w:World}{base:Nat}{ok:Nat→Prop}{A:Option Addr}{n c:Nat}{xs:List α}(h:d.R e w base ok (.slice A n c) xs):n=xs.length∧n≤c:=by
  obtain⟨A',c',he,hl,_⟩:=Kd.R_reads h
  injection he with h1 h2 h3
  exact⟨h2,by omega⟩
theorem Kd.R_apart {α β:Type}{d:Kd α}{d':Kd β}{e e':Nat}{w w1:World}{base base':Nat}{ok ok':Nat→Prop}{v:Value}{A:Option Addr}{n c:Nat}{xs:List α}{ys:List β}(h:d.R e w base ok v xs)(h':d'.R e' w base' ok' (.slice A n c) ys)
    (hne:(e::d.E).contains e'=false) (hg:w.grownBy w1 (A.map (·.block))):d.R e w1 base ok v xs:=by
  cases A with
  | none=>exact Kd.R_grown h hg (fun k _=>by simp)
  | some ad=>
    obtain⟨inner,ho⟩:=Kd.R_own h'
    obtain⟨cells,hb⟩:=own_typed ho ad.block rfl
    have h2:=Kd.R_types h hb (fun q hq e=>by subst e; rw[List.contains_iff_mem.2 hq]at hne; cases hne)
    exact Kd.R_mono (Kd.R_grown h2 hg (fun k hk e=>by simp at e; exact hk.2 e)) (fun _ hk=>hk.1)
theorem Kd.M_rowApart {α β:Type}{d:Kd α}{d':Kd β}{e e':Nat}{w:World}{base base':Nat}{v:Value}{A:Option Addr}{n c:Nat}{xs:List α}{ys:List β}{ok':Nat→Prop}(h:d.R e w base (OkFrom base) v xs)(hb:base'≤base)
    (h':d'.R e' w base' ok' (.slice A n c) ys) (hne:(e::d.E).contains e'=false):∃ okp,(Kd.slice e d).M w base' okp xs [v]∧∀ k,okp k→OkFrom base' k∧some k≠A.map (·.block):=by
  cases A with
  | none=>exact⟨OkFrom base,Kd.M_row (Kd.R_lower h hb),fun k hk=>⟨Nat.le_trans hb hk,by simp⟩⟩
  | some ad=>
    obtain⟨inner,ho⟩:=Kd.R_own h'
    obtain⟨cells,hbl⟩:=own_typed ho ad.block rfl
    have h2:=Kd.R_types h hbl (fun q hq e=>by subst e; rw[List.contains_iff_mem.2 hq]at hne; cases hne)
    exact⟨_,Kd.M_row (Kd.R_lower h2 hb),fun k hk=>⟨Nat.le_trans hb hk.1,fun e=>by simp at e; exact hk.2 e⟩⟩
theorem Kd.R_low {α:Type}{d:Kd α}{e:Nat}{w:World}{base base':Nat}{v:Value}{xs:List α}(h:d.R e w base (OkFrom base) v xs)(hb:base'≤base):d.R e w base' (OkFrom base') v xs:=Kd.R_mono (Kd.R_lower h hb) (fun _ hk=>Nat.le_trans hb hk)
theorem bgo {a b c:World}{r:Option Nat}{base:Nat}(h:Below a.heap.size a b)(k:b.grownBy c r)(hle:∀ x,r=some x→base≤x)(hB:a.heap.size≤base):Below a.heap.size a c:=h.grown k h.size (fun x hx=>Nat.le_trans hB (hle x hx))

theorem reps_flatMap {α:Type}{R:α→List Value→Prop}{size:Nat}(enc:α→List Value)(h1:∀ x,(enc x).length=size)(h2:∀ x,R x (enc x)):∀ xs:List α,Reps R size xs (xs.flatMap enc)
  | []=>Reps.none _ _
  | x::xs=>by
    have hs:Reps R size [x] (enc x):=by
      have:=(Reps.none R size).snoc (h2 x) (h1 x)
      simpa using this
    have:=Kd.reps_append hs (reps_flatMap enc h1 h2 xs)
    simpa using this
theorem Kd.R_litB {α:Type}(d:Kd α){W w1:World}{e:Nat}{cs:Array Value}(xs:List α)(hk:w1.heap[W.heap.size]?=some (.cells cs e (0,0)))(hrep:Reps (d.M w1 W.heap.size (fun _=>False)) d.sz xs cs.toList)(hl:xs.length≤9223372036854775807):
    d.R e w1 W.heap.size (OkFrom W.heap.size) (.slice (some ⟨W.heap.size,0,none⟩) xs.length xs.length) xs:=by
  refine⟨fun k hk=>?_,cs.toList,⟨hrep.1,.inr ⟨W.heap.size,xs.length,cs,rfl,Nat.le_refl _,hk,Nat.le_refl _,by simpa [maxLen] using hl,by simpa using hrep.1,List.take_of_length_le (by rw[hrep.1]; exact Nat.le_refl _)⟩⟩,hrep.1,fun j p hj=>d.M_mono (fun _ h=>h.elim) (hrep.2 j p hj)⟩
  have:W.heap.size=k:=by simpa [Value.ownBlock] using hk
  subst this
  exact Nat.le_refl _
theorem repsInt {w:World}{base:Nat}{ok:Nat→Prop}{k:IntKind}(xs:List Int):Reps ((Kd.int k).M w base ok) 1 xs (xs.flatMap fun x=>[.int k x]):=reps_flatMap (R:=(Kd.int k).M w base ok) (size:=1) (fun x=>[.int k x]) (fun _=>rfl) (fun _=>rfl) xs
theorem ownB {A:Option Addr}{n c:Nat}:(Value.slice A n c).ownBlock=A.map (·.block):=by cases A<;>rfl

section
variable {P : Program} {N : Nat} {ops : Array Oper} {qs : QS} {rest : List Oper} {o : Oper} {l : Slots} {α : Type}

theorem XL_append (d:Kd α){W:World}{s x:Operand}{t:TypeId}(ho:o.op=.call { callee:=.builtin .append,args:=#[s,x],argTypes:=#[t,t] })(hg:gd ops l o=some true)(hd:okD N o.dst=true)(base e:Nat)(z:Value)(bytes:Nat)
    (ht:P.underlying t=some (.slice e)) (hinfo:(P.info? e).map (fun i=>(i.zero,i.size,i.bytes))=some (some z,d.sz,bytes)) (hz:z.cells.size=d.sz) (hs0:0<d.sz) (hb0:0<bytes)
    {A:Option Addr} {n c:Nat} (xs:List α) (p:α) (cs:List Value) (okp:Nat→Prop) (hv:evs l [s,x]=some [.slice A n c,.slice (some ⟨W.heap.size,0,none⟩) 1 1]) (hp:d.M W base okp p cs) (hokp:∀ k,okp k→OkFrom base k∧some k≠A.map (·.block))
    (HO:d.R e W base (OkFrom base) (.slice A n c) xs) (hbase:base≤W.heap.size) (hl:(xs.length+1)*bytes≤140737488355328)
    (hn:∀ A1 c1 w1,d.R e w1 base (OkFrom base) (.slice A1 (xs++[p]).length c1) (xs++[p])→(xs++[p]).length≤c1→W.grownBy w1 (A.map (·.block))→(∀ k,A.map (·.block)=some k→base≤k)→(A1.map (·.block)=A.map (·.block)∨∃ b,A1.map (·.block)=some b∧W.heap.size≤b)→
      XL P N ops rest qs (putS l o.dst (.slice A1 (xs++[p]).length c1)) w1):XL P N ops (o::rest) qs l (W.alloc (.cells cs.toArray e)):=by
  refine XL_law hd hg fun a ha=>?_
  have he:=evs_ok ha _ _ hv
  simp only[List.map_cons,List.map_nil,List.cons.injEq,and_true]at he
  refine Kd.R_append (o:={ o with guard:=none }) d (w0:=W) base rfl s x t e z bytes ho ht hinfo hz hs0 hb0 _ xs p cs (OkFrom base) okp he.1 he.2 hp (by rw[ownB]; exact hokp) (fun k hk=>Nat.le_trans hbase hk) HO (Below.refl _ _) hbase hl ?_
  intro v1 w1 hR hB hgr hat
  obtain⟨A1,c1,rfl,hc,_⟩:=Kd.R_reads hR
  rw[ownB]at hgr hat
  rw[ownB]at hat
  exact hn A1 c1 w1 hR hc hgr (fun k hk=>HO.1 k (by rw[ownB]; exact hk)) hat _ (ha.putS hd _)

theorem XL_appendAll (d:Kd α){W:World}{s x:Operand}{t:TypeId}(ho:o.op=.call { callee:=.builtin .append,args:=#[s,x],argTypes:=#[t,t] })(hg:gd ops l o=some true)(hd:okD N o.dst=true)(base e:Nat)(z:Value)(bytes:Nat)
    (ht:P.underlying t=some (.slice e)) (hinfo:(P.info? e).map (fun i=>(i.zero,i.size,i.bytes))=some (some z,d.sz,bytes)) (hz:z.cells.size=d.sz) (hs0:0<d.sz) (hb0:0<bytes)
    {A A':Option Addr} {n c m c':Nat} (xs ys:List α) (hv:evs l [s,x]=some [.slice A n c,.slice A' m c'])
    (HO:d.R e W base (OkFrom base) (.slice A n c) xs) (HC:d.C W A' m ys) (hKM:∀ x cs,d.K W x cs→d.M W base (fun _=>False) x cs) (hbase:base≤W.heap.size) (hl:(xs.length+m)*bytes≤140737488355328)
    (hn:∀ A1 c1 w1,d.R e w1 base (OkFrom base) (.slice A1 (xs++ys).length c1) (xs++ys)→(xs++ys).length≤c1→W.grownBy w1 (A.map (·.block))→(∀ k,A.map (·.block)=some k→base≤k)→(A1.map (·.block)=A.map (·.block)∨∃ b,A1.map (·.block)=some b∧W.heap.size≤b)→
      XL P N ops rest qs (putS l o.dst (.slice A1 (xs++ys).length c1)) w1):XL P N ops (o::rest) qs l W:=by
  refine XL_law hd hg fun a ha=>?_
  have he:=evs_ok ha _ _ hv
  simp only[List.map_cons,List.map_nil,List.cons.injEq,and_true]at he
  refine Kd.R_append_rows (o:={ o with guard:=none }) d (w0:=W) base rfl s x t e z bytes ho ht hinfo hz hs0 hb0 _ xs ys A' m c' (OkFrom base) (fun _=>False) he.1 he.2 HO HC hKM (fun _ h=>h.elim) (fun k hk=>Nat.le_trans hbase hk) (Below.refl _ _) hbase hl ?_
  intro v1 w1 hR hB hgr hat
  obtain⟨A1,c1,rfl,hc,_⟩:=Kd.R_reads hR
  rw[ownB]at hgr hat
  rw[ownB]at hat
  exact hn A1 c1 w1 hR hc hgr (fun k hk=>HO.1 k (by rw[ownB]; exact hk)) hat _ (ha.putS hd _)

end
theorem wr_i32 {x:Int}(h1: -2147483648≤x)(h2:x≤2147483647):Value.int .i32 (IntKind.i32.wrap x)=.int .i32 x:=by rw[IntWalk.i32_in x ⟨h1,h2⟩]
theorem wr_u8 {x:Int}(h1:0≤x)(h2:x≤255):Value.int .u8 (IntKind.u8.wrap x)=.int .u8 x:=by rw[IntWalk.u8_in x ⟨h1,h2⟩]
theorem wr_u64 {x:Int}(h1:0≤x)(h2:x≤18446744073709551615):Value.int .u64 (IntKind.u64.wrap x)=.int .u64 x:=by rw[IntWalk.u64_in x ⟨h1,h2⟩]

section
variable {P : Program} {l : Slots} {t ty : TypeId} {x lo hi y : Operand} {s : ByteArray} {k k' : IntKind} {w : World}
theorem runs_slice_slh {i j:Int}(ht:P.underlying t=some .string)(hx:ev l x=some (.string s))(hl:ev l lo=some (.int k i))(hh:ev l hi=some (.int k' j))(h0:0≤i)(h1:i≤j)(h2:j≤s.size):
    RunsAs P l (.slice t x (some lo) (some hi) none) ty (.string (s.extract i.toNat j.toNat)) w:=by
  intro o ho _
  have e1:evD l x=.string s:=by rw[evD,hx]; rfl
  have e2:evD l hi=.int k' j:=by rw[evD,hh]; rfl
  have e3:evD l lo=.int k i:=by rw[evD,hl]; rfl
  unfold execOp
  simp only[ho,e1,e2,e3,Option.map_none,Option.map_some,Sem.run_bind]
  rw[run_sliceAt_string _ _ _ _ _ _ ht,run_slice_string_if _ _ _ _ _ _ _ ht,if_pos ⟨by omega,h2⟩,if_pos ⟨h0,h1⟩]
  simp
theorem runs_index_s {i:Int}(ht:P.underlying t=some .string)(hx:ev l x=some (.string s))(hy:ev l y=some (.int k i))(h0:0≤i)(h1:i<s.size):
    RunsAs P l (.index t x y) ty (.int .u8 ((s.data.toList.getD i.toNat 0).toNat:Int)) w:=by
  refine runs_index hx hy ?_
  rw[run_index_string _ _ _ _ _ ht,dif_pos ⟨h0,h1⟩]
  have hlt:i.toNat<s.data.toList.length:=by rw[Array.length_toList]; have:s.data.size=s.size:=rfl; omega
  rw[List.getD_eq_getElem?_getD,List.getElem?_eq_getElem hlt]
  rfl
theorem runs_conv {src dst:TypeId}{v v':Value}(hx:ev l x=some v)(h:(convert src dst v).run P w=.ok v' w):RunsAs P l (.convert src dst x) ty v' w:=by
  intro o ho _
  have e1:evD l x=v:=by rw[evD,hx]; rfl
  unfold execOp
  simp only[ho,e1,Sem.run_bind,Sem.run_pure,Result.andThen_ok,h]
end
theorem run_sadd {P:Program}{t:TypeId}{a b:ByteArray}{w:World}(h:a.size+b.size≤9223372036854775807):(binOp .add t (.string a) (.string b)).run P w=.ok (.string (a++b)) w:=by rw[binOp_string_add]; exact run_string_add_sum w a b h
theorem add_plain (g j:Nat):(⟨g,0,none⟩:Addr).add j=⟨g,j,none⟩:=by unfold Addr.add; split<;>simp_all
theorem conv_bytesC {P:Program}{w:World}{src dst e n c:Nat}{A:Option Addr}{base:Nat}{ok:Nat→Prop}(xs:List Int)(hs:P.underlying src=some (.slice e))(he:P.underlying e=some (.int .u8))(hd:P.underlying dst=some .string)
    (h:(Kd.int .u8).R e w base ok (.slice A n c) xs):(convert src dst (.slice A n c)).run P w=.ok (.string (strOfNums xs)) w:=by
  obtain⟨hn,_⟩:=Kd.R_len h
  have hC:=Kd.R_C h
  cases A with
  | none=>
    obtain⟨_,_,_⟩:=hC
    obtain⟨inner,ho⟩:=Kd.R_own h
    rcases ho.2 with ⟨he',h0⟩|⟨g,cap,cur,he',_⟩
    · injection he' with _ h1 h2
      subst h1; subst h2
      have:xs=[]:=List.length_eq_zero_iff.1 hn.symm
      subst this
      rw[run_convert_bytes_nil w src e hs he 0 0 dst hd]; rfl
    · cases he'
  | some ad=>
    obtain⟨inner,ho⟩:=Kd.R_own h
    rcases ho.2 with ⟨he',h0⟩|⟨g,cap,cur,he',_,hh,_⟩
    · cases he'
    · injection he' with h1 h2 h3
      injection h1 with h1
      subst h1
      refine run_convert_bytes_arg w src e hs he g 0 n c xs hn.symm (fun i hi=>?_) dst hd
      obtain⟨ad',e1,hc⟩:=Kd.atI hC (i:=(i:Int)) (by omega) (by omega)
      injection e1 with e1
      subst e1
      have:=hc 0 _ rfl
      simp only[Int.toNat_natCast,Nat.mul_one]at this
      rw[add_plain]at this
      rw[Nat.zero_add]
      have e2:(⟨g,i,none⟩:Addr).add 0=⟨g,i,none⟩:=rfl
      rw[e2]at this
      rw[this]
      simp[rd]
section
variable {P : Program} {N : Nat} {ops : Array Oper} {qs : QS} {rest : List Oper} {o : Oper} {l : Slots} {w : World}
theorem XL_val (hg:gd ops l o=some true)(hd:okD N o.dst=true){v:Value}{w1:World}(hr:∀ a,Fr N l a→(execOp a.eval o).run P w=.ok (.value v) w1)(hn:XL P N ops rest qs (putS l o.dst v) w1):XL P N ops (o::rest) qs l w:=by
  intro a ha
  refine wpList_step fun K hK=>?_
  rw[if_pos (gd_ok ha hg)]
  unfold Oper.wp
  rw[hr a ha]
  exact hK _ _ (hn _ (ha.putS hd v))
end
open Go.ChangeMaps (putKey delKey setBlock)
open Go.ChangeMaps (heap_setBlock_same heap_setBlock_other)
abbrev MapR :=Value→Option (DataW Unit×List MemPlace)
def MapL (P:Program)(kt:TypeId)(R:MapR)(w:World)(B:Nat)(L:List (Lit×DataW Unit)):Prop:=w.ownsMap P kt R B L.length (.map L)
section
variable {P : Program} {kt et t : TypeId} {R : MapR} {w w1 : World} {B n : Nat} {L : List (Lit × DataW Unit)}
theorem MapL.of (h:w.ownsMap P kt R B n (.map L)):MapL P kt R w B L:=by
  obtain⟨es,clock,hb,F,hn,hD⟩:=h
  refine⟨es,clock,hb,F,?_,hD⟩
  injection hD with hD
  rw[hD,length_sorted]
  simp
theorem MapL.kept {row:Option Nat}(h:MapL P kt R w B L)(hg:w.grownBy w1 row)(hne:some B≠row):MapL P kt R w1 B L:=World.ownsMap.kept h hg hne
theorem MapL.lt (h:MapL P kt R w B L):B<w.heap.size:=World.ownsMap.lt h
theorem MapL.below (h:MapL P kt R w B L)(hb:Below w.heap.size w w1):MapL P kt R w1 B L:=by
  obtain⟨es,clock,hk,r⟩:=h
  exact⟨es,clock,(hb.block B (Array.getElem?_eq_some_iff.1 hk).1).trans hk,r⟩
theorem MapL.size (h:MapL P kt R w B L):∃ es clock,w.heap[B]?=some (.map es clock)∧es.size=L.length:=by
  obtain⟨es,clock,hk,F,_,hD⟩:=h
  injection hD with hD
  exact⟨es,clock,hk,by rw[hD,length_sorted]; simp⟩
theorem MapL.made (w:World):MapL P kt R (w.alloc (.map #[] 0)) w.heap.size []:=World.ownsMap_made w P kt R
theorem MapL.rising (h:MapL P kt R w B L)(K:Maps.Keyed P kt):L.Pairwise (fun p q=>p.1.before q.1=true):=by
  obtain⟨es,clock,hk,F,_,hD⟩:=h
  injection hD with hD
  rw[hD]
  exact Maps.sorted_sorted K.one _ (Maps.fit_keys F) (Maps.fit_apart K F)
end
section
variable {P : Program} {N : Nat} {ops : Array Oper} {qs : QS} {rest : List Oper} {o : Oper} {l : Slots} {w : World} {kt et t : TypeId} {R : MapR} {B : Nat} {L : List (Lit × DataW Unit)}
theorem XL_mapMake (ho:o.op=.makeMap t none)(hg:gd ops l o=some true)(hd:okD N o.dst=true)
    (hn:∀ w1,Below w.heap.size w w1→w1.heap.size=w.heap.size+1→(∀ kt R,MapL P kt R w1 w.heap.size [])→XL P N ops rest qs (putS l o.dst (.map (some w.heap.size))) w1):XL P N ops (o::rest) qs l w:=by
  refine XL_val hg hd (v:=.map (some w.heap.size)) (w1:=w.alloc (.map #[] 0)) (fun a ha=>?_) (hn _ ((Below.refl _ _).alloc (Nat.le_refl _) _) (by simp) fun kt R=>MapL.made w)
  unfold execOp
  simp only[ho,Option.map_none,Sem.run_bind,run_makeMap,Result.andThen_ok,Sem.run_pure]
theorem XL_mapPut {m x v:Operand}(ho:o.op=.mapUpdate t m x v)(hdn:o.dst=none)(hg:gd ops l o=some true)(K:Maps.Keyed P kt)(ht:P.underlying t=some (.map kt et)){key val:Value}{kl:Lit}{d:DataW Unit}{ps:List MemPlace}
    (hv:evs l [m,x,v]=some [.map (some B),key,val]) (h:MapL P kt R w B L) (hl:L.length<maxLen) (hk:keyOf P kt key=some kl) (hR:R val=some (d,ps))
    (hn:∀ w1,w.grownBy w1 (some B)→MapL P kt R w1 B (putKey kl d L)→XL P N ops rest qs l w1):XL P N ops (o::rest) qs l w:=by
  refine XL_law (by rw[hdn]; rfl) hg fun a ha=>?_
  have he:=evs_ok ha _ _ hv
  simp only[List.map_cons,List.map_nil,List.cons.injEq,and_true]at he
  refine wpList_plain rfl fun K' hK=>?_
  obtain⟨w1,hrun,r1,r2⟩:=World.ownsMap.update h K ht hl hk hR
  unfold Oper.wp execOp
  simp only[ho,he.1,he.2.1,he.2.2,Sem.run_bind,hrun,Result.andThen_ok,Sem.run_pure]
  have hput:a.put o.dst undef=a:=by rw[hdn]; rfl
  exact hK _ _ (by rw[hput]; exact hn w1 r2 (MapL.of r1) a ha)
theorem XL_mapDel {m k:Operand}(ho:o.op=.call { callee:=.builtin .delete,args:=#[m,k],argTypes:=#[t,kt] })(hg:gd ops l o=some true)(hd:okD N o.dst=true)(K:Maps.Keyed P kt)(ht:P.underlying t=some (.map kt et)){key:Value}{kl:Lit}
    (hv:evs l [m,k]=some [.map (some B),key]) (h:MapL P kt R w B L) (hk:keyOf P kt key=some kl)
    (hn:∀ w1,w.grownBy w1 (some B)→MapL P kt R w1 B (delKey kl L)→XL P N ops rest qs (putS l o.dst (.tuple #[])) w1):XL P N ops (o::rest) qs l w:=by
  obtain⟨es,clock,hb,F,hs,hD⟩:=h
  obtain⟨es',hrun,F',hs',hdel,_⟩:=Maps.fit_drop (ty:=o.type) K ht hb F hk
  refine XL_law hd hg fun a ha=>?_
  have he:=evs_ok ha _ _ hv
  simp only[List.map_cons,List.map_nil,List.cons.injEq,and_true]at he
  refine wpList_plain rfl fun K' hK=>?_
  unfold Oper.wp execOp
  simp only[ho,resolve,invoke,builtin,Sem.run_bind,Sem.run_pure,Result.andThen_ok,List.map_toArray,List.map_cons,List.map_nil,he.1,he.2,hrun]
  injection hD with hD
  have hM:MapL P kt R (setBlock w B (.map es' clock)) B (delKey kl L):=MapL.of (n:=es'.size) ⟨es',clock,heap_setBlock_same hb _,F',Nat.le_refl _,by rw[hD,hdel]⟩
  have hG:w.grownBy (setBlock w B (.map es' clock)) (some B):=⟨rfl,rfl,rfl,by simp[setBlock],fun i _ hi=>heap_setBlock_other hb _ (fun e=>hi (by rw[e]))⟩
  exact hK _ _ (hn _ hG hM _ (ha.putS hd _))
end
end Go.Proofs.YtlnnjfdonilgmaaGreatDoor.RX
