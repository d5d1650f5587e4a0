import Derived.Test.YtlnnjfdonilgmaaGreatDoorKd
import Derived.Laws.Strings
import Derived.Laws.Strings3
import Derived.Laws.DeepStrings4
import Derived.Laws.BytesArg
import Derived.Laws.Cover4
import Derived.Laws.IdiomStrings
import Derived.Lib.OthersKept
import Derived.Laws.RangeString
import Derived.Laws.Entries
import Derived.Laws.Concat
import Derived.Maps.Own
import Derived.Maps.Views
/- Strings: an index, a cut, conversions, going over one. No condition. -/
set_option linter.unusedVariables false
set_option linter.unusedSimpArgs false
namespace Go.Proofs.YtlnnjfdonilgmaaGreatDoor.RX
open Go Go.RowKit Go.Proofs.YtlnnjfdonilgmaaGreatDoorW.PrintWords

theorem wr_i32 {x:Int}(h1: -2147483648≤x)(h2:x≤2147483647):Value.int .i32 (IntKind.i32.wrap x)=.int .i32 x:=by rw[IntWalk.i32_in x ⟨h1,h2⟩]
theorem wr_u8 {x:Int}(h1:0≤x)(h2:x≤255):Value.int .u8 (IntKind.u8.wrap x)=.int .u8 x:=by rw[IntWalk.u8_in x ⟨h1,h2⟩]
section
variable {P : Program} {l : Slots} {t ty : TypeId} {x lo hi y : Operand} {s : ByteArray} {k k' : IntKind} {w : World}
theorem runs_slice_slh {i j:Int}(ht:P.underlying t=some .string)(hx:ev l x=some (.string s))(hl:ev l lo=some (.int k i))(hh:ev l hi=some (.int k' j))(h0:0≤i)(h1:i≤j)(h2:j≤s.size):
    RunsAs P l (.slice t x (some lo) (some hi) none) ty (.string (s.extract i.toNat j.toNat)) w:=by
  intro o ho _
  have e1:evD l x=.string s:=by rw[evD,hx]; rfl
  have e2:evD l hi=.int k' j:=by rw[evD,hh]; rfl
  have e3:evD l lo=.int k i:=by rw[evD,hl]; rfl
  unfold execOp
  simp only[ho,e1,e2,e3,Option.map_none,Option.map_some,Sem.run_bind]
  rw[run_sliceAt_string _ _ _ _ _ _ ht,run_slice_string_if _ _ _ _ _ _ _ ht,if_pos ⟨by omega,h2⟩,if_pos ⟨h0,h1⟩]
  simp
theorem runs_index_s {i:Int}(ht:P.underlying t=some .string)(hx:ev l x=some (.string s))(hy:ev l y=some (.int k i))(h0:0≤i)(h1:i<s.size):
    RunsAs P l (.index t x y) ty (.int .u8 ((s.data.toList.getD i.toNat 0).toNat:Int)) w:=by
  refine runs_index hx hy ?_
  rw[run_index_string _ _ _ _ _ ht,dif_pos ⟨h0,h1⟩]
  have hlt:i.toNat<s.data.toList.length:=by rw[Array.length_toList]; have:s.data.size=s.size:=rfl; omega
  rw[List.getD_eq_getElem?_getD,List.getElem?_eq_getElem hlt]
  rfl
theorem runs_conv {src dst:TypeId}{v v':Value}(hx:ev l x=some v)(h:(convert src dst v).run P w=.ok v' w):RunsAs P l (.convert src dst x) ty v' w:=by
  intro o ho _
  have e1:evD l x=v:=by rw[evD,hx]; rfl
  unfold execOp
  simp only[ho,e1,Sem.run_bind,Sem.run_pure,Result.andThen_ok,h]
end
theorem run_sadd {P:Program}{t:TypeId}{a b:ByteArray}{w:World}(h:a.size+b.size≤9223372036854775807):(binOp .add t (.string a) (.string b)).run P w=.ok (.string (a++b)) w:=by rw[binOp_string_add]; exact run_string_add_sum w a b h
theorem add_plain (g j:Nat):(⟨g,0,none⟩:Addr).add j=⟨g,j,none⟩:=by unfold Addr.add; split<;>simp_all
theorem conv_bytesC {P:Program}{w:World}{src dst e n c:Nat}{A:Option Addr}{base:Nat}{ok:Nat→Prop}(xs:List Int)(hs:P.underlying src=some (.slice e))(he:P.underlying e=some (.int .u8))(hd:P.underlying dst=some .string)
    (h:(Kd.int .u8).R e w base ok (.slice A n c) xs):(convert src dst (.slice A n c)).run P w=.ok (.string (strOfNums xs)) w:=by
  obtain⟨hn,_⟩:=Kd.R_len h
  have hC:=Kd.R_C h
  cases A with
  | none=>
    obtain⟨_,_,_⟩:=hC
    obtain⟨inner,ho⟩:=Kd.R_own h
    rcases ho.2 with ⟨he',h0⟩|⟨g,cap,cur,he',_⟩
    · injection he' with _ h1 h2
      subst h1; subst h2
      have:xs=[]:=List.length_eq_zero_iff.1 hn.symm
      subst this
      rw[run_convert_bytes_nil w src e hs he 0 0 dst hd]; rfl
    · cases he'
  | some ad=>
    obtain⟨inner,ho⟩:=Kd.R_own h
    rcases ho.2 with ⟨he',h0⟩|⟨g,cap,cur,he',_,hh,_⟩
    · cases he'
    · injection he' with h1 h2 h3
      injection h1 with h1
      subst h1
      refine run_convert_bytes_arg w src e hs he g 0 n c xs hn.symm (fun i hi=>?_) dst hd
      obtain⟨ad',e1,hc⟩:=Kd.atI hC (i:=(i:Int)) (by omega) (by omega)
      injection e1 with e1
      subst e1
      have:=hc 0 _ rfl
      simp only[Int.toNat_natCast,Nat.mul_one]at this
      rw[add_plain]at this
      rw[Nat.zero_add]
      have e2:(⟨g,i,none⟩:Addr).add 0=⟨g,i,none⟩:=rfl
      rw[e2]at this
      rw[this]
      simp[rd]
section
variable {P : Program} {N : Nat} {ops : Array Oper} {qs : QS} {rest : List Oper} {o : Oper} {l : Slots} {w : World}
theorem XL_val (hg:gd ops l o=some true)(hd:okD N o.dst=true){v:Value}{w1:World}(hr:∀ a,Fr N l a→(execOp a.eval o).run P w=.ok (.value v) w1)(hn:XL P N ops rest qs (putS l o.dst v) w1):XL P N ops (o::rest) qs l w:=by
  intro a ha
  refine wpList_step fun K hK=>?_
  rw[if_pos (gd_ok ha hg)]
  unfold Oper.wp
  rw[hr a ha]
  exact hK _ _ (hn _ (ha.putS hd v))
end
open Go.ChangeMaps (putKey delKey setBlock)
open Go.ChangeMaps (heap_setBlock_same heap_setBlock_other)
abbrev MapR :=Value→Option (DataW Unit×List MemPlace)
def MapL (P:Program)(kt:TypeId)(R:MapR)(w:World)(B:Nat)(L:List (Lit×DataW Unit)):Prop:=w.ownsMap P kt R B L.length (.map L)
section
variable {P : Program} {kt et t : TypeId} {R : MapR} {w w1 : World} {B n : Nat} {L : List (Lit × DataW Unit)}
theorem MapL.of (h:w.ownsMap P kt R B n (.map L)):MapL P kt R w B L:=by
  obtain⟨es,clock,hb,F,hn,hD⟩:=h
  refine⟨es,clock,hb,F,?_,hD⟩
  injection hD with hD
  rw[hD,length_sorted]
  simp
theorem MapL.kept {row:Option Nat}(h:MapL P kt R w B L)(hg:w.grownBy w1 row)(hne:some B≠row):MapL P kt R w1 B L:=World.ownsMap.kept h hg hne
theorem MapL.lt (h:MapL P kt R w B L):B<w.heap.size:=World.ownsMap.lt h
theorem MapL.below (h:MapL P kt R w B L)(hb:Below w.heap.size w w1):MapL P kt R w1 B L:=by
  obtain⟨es,clock,hk,r⟩:=h
  exact⟨es,clock,(hb.block B (Array.getElem?_eq_some_iff.1 hk).1).trans hk,r⟩
theorem MapL.size (h:MapL P kt R w B L):∃ es clock,w.heap[B]?=some (.map es clock)∧es.size=L.length:=by
  obtain⟨es,clock,hk,F,_,hD⟩:=h
  injection hD with hD
  exact⟨es,clock,hk,by rw[hD,length_sorted]; simp⟩
theorem MapL.made (w:World):MapL P kt R (w.alloc (.map #[] 0)) w.heap.size []:=World.ownsMap_made w P kt R
theorem MapL.rising (h:MapL P kt R w B L)(K:Maps.Keyed P kt):L.Pairwise (fun p q=>p.1.before q.1=true):=by
  obtain⟨es,clock,hk,F,_,hD⟩:=h
  injection hD with hD
  rw[hD]
  exact Maps.sorted_sorted K.one _ (Maps.fit_keys F) (Maps.fit_apart K F)
end
section
variable {P : Program} {N : Nat} {ops : Array Oper} {qs : QS} {rest : List Oper} {o : Oper} {l : Slots} {w : World} {kt et t : TypeId} {R : MapR} {B : Nat} {L : List (Lit × DataW Unit)}
theorem XL_mapMake (ho:o.op=.makeMap t none)(hg:gd ops l o=some true)(hd:okD N o.dst=true)
    (hn:∀ w1,Below w.heap.size w w1→w1.heap.size=w.heap.size+1→(∀ kt R,MapL P kt R w1 w.heap.size [])→XL P N ops rest qs (putS l o.dst (.map (some w.heap.size))) w1):XL P N ops (o::rest) qs l w:=by
  refine XL_val hg hd (v:=.map (some w.heap.size)) (w1:=w.alloc (.map #[] 0)) (fun a ha=>?_) (hn _ ((Below.refl _ _).alloc (Nat.le_refl _) _) (by simp) fun kt R=>MapL.made w)
  unfold execOp
  simp only[ho,Option.map_none,Sem.run_bind,run_makeMap,Result.andThen_ok,Sem.run_pure]
theorem XL_mapPut {m x v:Operand}(ho:o.op=.mapUpdate t m x v)(hdn:o.dst=none)(hg:gd ops l o=some true)(K:Maps.Keyed P kt)(ht:P.underlying t=some (.map kt et)){key val:Value}{kl:Lit}{d:DataW Unit}{ps:List MemPlace}
    (hv:evs l [m,x,v]=some [.map (some B),key,val]) (h:MapL P kt R w B L) (hl:L.length<maxLen) (hk:keyOf P kt key=some kl) (hR:R val=some (d,ps))
    (hn:∀ w1,w.grownBy w1 (some B)→MapL P kt R w1 B (putKey kl d L)→XL P N ops rest qs l w1):XL P N ops (o::rest) qs l w:=by
  refine XL_law (by rw[hdn]; rfl) hg fun a ha=>?_
  have he:=evs_ok ha _ _ hv
  simp only[List.map_cons,List.map_nil,List.cons.injEq,and_true]at he
  refine wpList_plain rfl fun K' hK=>?_
  obtain⟨w1,hrun,r1,r2⟩:=World.ownsMap.update h K ht hl hk hR
  unfold Oper.wp execOp
  simp only[ho,he.1,he.2.1,he.2.2,Sem.run_bind,hrun,Result.andThen_ok,Sem.run_pure]
  have hput:a.put o.dst undef=a:=by rw[hdn]; rfl
  exact hK _ _ (by rw[hput]; exact hn w1 r2 (MapL.of r1) a ha)
theorem XL_mapDel {m k:Operand}(ho:o.op=.call { callee:=.builtin .delete,args:=#[m,k],argTypes:=#[t,kt] })(hg:gd ops l o=some true)(hd:okD N o.dst=true)(K:Maps.Keyed P kt)(ht:P.underlying t=some (.map kt et)){key:Value}{kl:Lit}
    (hv:evs l [m,k]=some [.map (some B),key]) (h:MapL P kt R w B L) (hk:keyOf P kt key=some kl)
    (hn:∀ w1,w.grownBy w1 (some B)→MapL P kt R w1 B (delKey kl L)→XL P N ops rest qs (putS l o.dst (.tuple #[])) w1):XL P N ops (o::rest) qs l w:=by
  obtain⟨es,clock,hb,F,hs,hD⟩:=h
  obtain⟨es',hrun,F',hs',hdel,_⟩:=Maps.fit_drop (ty:=o.type) K ht hb F hk
  refine XL_law hd hg fun a ha=>?_
  have he:=evs_ok ha _ _ hv
  simp only[List.map_cons,List.map_nil,List.cons.injEq,and_true]at he
  refine wpList_plain rfl fun K' hK=>?_
  unfold Oper.wp execOp
  simp only[ho,resolve,invoke,builtin,Sem.run_bind,Sem.run_pure,Result.andThen_ok,List.map_toArray,List.map_cons,List.map_nil,he.1,he.2,hrun]
  injection hD with hD
  have hM:MapL P kt R (setBlock w B (.map es' clock)) B (delKey kl L):=MapL.of (n:=es'.size) ⟨es',clock,heap_setBlock_same hb _,F',Nat.le_refl _,by rw[hD,hdel]⟩
  have hG:w.grownBy (setBlock w B (.map es' clock)) (some B):=⟨rfl,rfl,rfl,by simp[setBlock],fun i _ hi=>heap_setBlock_other hb _ (fun e=>hi (by rw[e]))⟩
  exact hK _ _ (hn _ hG hM _ (ha.putS hd _))
end
end Go.Proofs.YtlnnjfdonilgmaaGreatDoor.RX
