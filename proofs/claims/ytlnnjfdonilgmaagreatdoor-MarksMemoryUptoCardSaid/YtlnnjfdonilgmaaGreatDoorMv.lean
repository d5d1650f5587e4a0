/- Marks carried over a delta: plain law, and what a loop that fills a map keeps. No condition. -/
import Derived.Test.YtlnnjfdonilgmaaGreatDoorChg
import Derived.Test.YtlnnjfdonilgmaaGreatDoorRwk
import Derived.Test.YtlnnjfdonilgmaaGreatDoorK1
set_option linter.unusedVariables false
set_option linter.unusedSimpArgs false
namespace Go.Proofs.YtlnnjfdonilgmaaGreatDoor
open Go Go.RowKit Go.Proofs.YtlnnjfdonilgmaaGreatDoorW.PrintWords RX
abbrev bA (m:MarkA)(au:ByteArray):Bool:=m.1.toList==au.toList
noncomputable def mvMk (xs:List OpA) (au:ByteArray) (m:MarkA):MarkA:=(m.1,(plE xs m.2.1 (bA m au)).1,(plE xs m.2.2 (bA m au)).1)
def mvOk (xs:List OpA)(au:ByteArray)(m:MarkA):Prop:=(plE xs m.2.1 (bA m au)).2=0∧(plE xs m.2.2 (bA m au)).2=0
noncomputable instance (xs:List OpA) (au:ByteArray) (ms:List MarkA):Decidable (∀ m∈ms,mvOk xs au m):=Classical.propDecidable _
noncomputable def mvE (xs:List OpA) (au:ByteArray) (ms:List MarkA):Nat:=if ∀ m∈ms,mvOk xs au m then 0 else 11
noncomputable def mvMs (xs:List OpA) (au:ByteArray) (ms:List MarkA):List MarkA:=if ∀ m∈ms,mvOk xs au m then ms.map (mvMk xs au)else ms
theorem mv_len (xs:List OpA)(au:ByteArray)(ms:List MarkA):(mvMs xs au ms).length=ms.length:=by unfold mvMs; split<;>simp
theorem mv_snoc {xs:List OpA}{au:ByteArray}{ms:List MarkA}{i:Nat}(h:i<ms.length):(ms.take i).map (mvMk xs au)++[mvMk xs au (ms.getD i mark0)]=(ms.take (i+1)).map (mvMk xs au):=by
  rw[←take_snocM h,List.map_append]; rfl
theorem mv_all {xs:List OpA}{au:ByteArray}{ms:List MarkA}(h:∀ t,t<ms.length→mvOk xs au (ms.getD t mark0)):∀ m∈ms,mvOk xs au m:=fun m hm=>by
  obtain⟨t,ht,rfl⟩:=List.getElem_of_mem hm
  have:=h t ht
  rwa [List.getD_eq_getElem?_getD,List.getElem?_eq_getElem ht]at this
theorem mv_not {xs:List OpA}{au:ByteArray}{ms:List MarkA}{i:Nat}(hi:i<ms.length)(h:¬mvOk xs au (ms.getD i mark0)):¬∀ m∈ms,mvOk xs au m:=fun h2=>h (h2 _ (getD_mem mark0 hi))
theorem mput_end :∀ {ms:List MarkA} {m:MarkA},(∀ x∈ms,kl x.1 m.1=true)→mPut ms m=ms++[m]
  | [],_,_=>rfl
  | x::r,m,h=>by
    unfold mPut
    rw[if_pos (h x (by simp)),mput_end (fun y hy=>h y (by simp[hy]))]; rfl
theorem mput_snoc {xs:List OpA}{au:ByteArray}{ms:List MarkA}(hR:RisM ms){i:Nat}(hi:i<ms.length):mPut ((ms.take i).map (mvMk xs au)) (mvMk xs au (ms.getD i mark0))=(ms.take (i+1)).map (mvMk xs au):=by
  rw[←mv_snoc hi,mput_end fun x hx=>?_]
  obtain⟨y,hy,rfl⟩:=List.mem_map.1 hx
  obtain⟨t,ht,rfl⟩:=List.getElem_of_mem hy
  rw[List.length_take]at ht
  have:=List.pairwise_iff_getElem.1 hR t i (by omega) hi (by omega)
  show kl ((ms.take i)[t]).1 (ms.getD i mark0).1=true
  rw[List.getElem_take,List.getD_eq_getElem?_getD,List.getElem?_eq_getElem hi]
  exact this
theorem KpM.mapw {D M:Nat→Prop}{A B:World}{b:Nat}(hg:A.grownBy B (some b))(hM:M b)(hn:¬D b)(hD:∀ k,D k→k<A.heap.size):KpM D M A B:=
  ⟨hg.os,hg.tape,hg.output,hg.size,fun k hk=>hg.block k (hD k hk) fun e=>hn (Option.some.inj e▸hk),fun k o hk _ hm=>(hg.block k (Array.getElem?_eq_some_iff.1 hk).1 fun e=>hm (Option.some.inj e▸hM)).trans hk⟩
theorem keeps_map {B b:Nat}{W W':World}(hlt:b<B)(hg:W.grownBy W' (some b)):KeepsFrom B W W':=
  ⟨hg.size,fun k o hB hk _=>(hg.block k (Array.getElem?_eq_some_iff.1 hk).1 fun e=>by have:=Option.some.inj e; omega).trans hk⟩
theorem ownFrom_map {β:Type}{P:Program}{kt:TypeId}{R:MapR}{B b:Nat}(hlt:b<B)(L:β→List (Lit×DataW Unit)):OwnFrom B (fun s W=>MapL P kt R W b (L s)):=by
  rintro s W W' row h hg hr
  exact MapL.kept h hg fun e=>by have:=(hr b e.symm).1; omega
end Go.Proofs.YtlnnjfdonilgmaaGreatDoor
