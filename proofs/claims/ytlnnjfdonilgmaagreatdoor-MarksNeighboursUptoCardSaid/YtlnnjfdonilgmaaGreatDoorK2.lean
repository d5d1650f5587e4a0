import Derived.Test.YtlnnjfdonilgmaaGreatDoorChg
import Derived.Test.YtlnnjfdonilgmaaGreatDoorMk
import Derived.Test.YtlnnjfdonilgmaaGreatDoorK1
import Derived.Test.YtlnnjfdonilgmaaGreatDoorMrk
import Derived.Test.YtlnnjfdonilgmaaGreatDoorR1
/- Marks carried over a delta: plain law, and what a loop that fills a map keeps. No condition. -/
set_option linter.unusedVariables false
set_option linter.unusedSimpArgs false
namespace Go.Proofs.YtlnnjfdonilgmaaGreatDoor
open Go Go.RowKit Go.Proofs.YtlnnjfdonilgmaaGreatDoorW.PrintWords RX
abbrev bA (m:MarkA)(au:ByteArray):Bool:=m.1.toList==au.toList
noncomputable def mvMk (xs:List OpA) (au:ByteArray) (m:MarkA):MarkA:=(m.1,(plE xs m.2.1 (bA m au)).1,(plE xs m.2.2 (bA m au)).1)
def mvOk (xs:List OpA)(au:ByteArray)(m:MarkA):Prop:=(plE xs m.2.1 (bA m au)).2=0∧(plE xs m.2.2 (bA m au)).2=0
noncomputable instance (xs:List OpA) (au:ByteArray) (ms:List MarkA):Decidable (∀ m∈ms,mvOk xs au m):=Classical.propDecidable _
noncomputable def mvE (xs:List OpA) (au:ByteArray) (ms:List MarkA):Nat:=if ∀ m∈ms,mvOk xs au m then 0 else 11
noncomputable def mvMs (xs:List OpA) (au:ByteArray) (ms:List MarkA):List MarkA:=if ∀ m∈ms,mvOk xs au m then ms.map (mvMk xs au)else ms
theorem mv_len (xs:List OpA)(au:ByteArray)(ms:List MarkA):(mvMs xs au ms).length=ms.length:=by unfold mvMs; split<;>simp
theorem mv_snoc {xs:List OpA}{au:ByteArray}{ms:List MarkA}{i:Nat}(h:i<ms.length):(ms.take i).map (mvMk xs au)++[mvMk xs au (ms.getD i mark0)]=(ms.take (i+1)).map (mvMk xs au):=by
  rw[←take_snocM h,List.map_append]; rfl
theorem mput_end :∀ {ms:List MarkA} {m:MarkA},(∀ x∈ms,kl x.1 m.1=true)→mPut ms m=ms++[m]
  | [],_,_=>rfl
  | x::r,m,h=>by
    unfold mPut
    rw[if_pos (h x (by simp)),mput_end (fun y hy=>h y (by simp[hy]))]; rfl
theorem mput_snoc {xs:List OpA}{au:ByteArray}{ms:List MarkA}(hR:RisM ms){i:Nat}(hi:i<ms.length):mPut ((ms.take i).map (mvMk xs au)) (mvMk xs au (ms.getD i mark0))=(ms.take (i+1)).map (mvMk xs au):=by
  rw[←mv_snoc hi,mput_end fun x hx=>?_]
  obtain⟨y,hy,rfl⟩:=List.mem_map.1 hx
  obtain⟨t,ht,rfl⟩:=List.getElem_of_mem hy
  rw[List.length_take]at ht
  have:=List.pairwise_iff_getElem.1 hR t i (by omega) hi (by omega)
  show kl ((ms.take i)[t]).1 (ms.getD i mark0).1=true
  rw[List.getElem_take,List.getD_eq_getElem?_getD,List.getElem?_eq_getElem hi]
  exact this
theorem KpM.mapw {D M:Nat→Prop}{A B:World}{b:Nat}(hg:A.grownBy B (some b))(hM:M b)(hn:¬D b)(hD:∀ k,D k→k<A.heap.size):KpM D M A B:=
  ⟨hg.os,hg.tape,hg.output,hg.size,fun k hk=>hg.block k (hD k hk) fun e=>hn (Option.some.inj e▸hk),fun k o hk _ hm=>(hg.block k (Array.getElem?_eq_some_iff.1 hk).1 fun e=>hm (Option.some.inj e▸hM)).trans hk⟩
theorem keeps_map {B b:Nat}{W W':World}(hlt:b<B)(hg:W.grownBy W' (some b)):KeepsFrom B W W':=
  ⟨hg.size,fun k o hB hk _=>(hg.block k (Array.getElem?_eq_some_iff.1 hk).1 fun e=>by have:=Option.some.inj e; omega).trans hk⟩
theorem ownFrom_map {β:Type}{P:Program}{kt:TypeId}{R:MapR}{B b:Nat}(hlt:b<B)(L:β→List (Lit×DataW Unit)):OwnFrom B (fun s W=>MapL P kt R W b (L s)):=by
  rintro s W W' row h hg hr
  exact MapL.kept h hg fun e=>by have:=(hr b e.symm).1; omega
set_option maxRecDepth 100000
theorem info31 :(Tryz.prog.info? 31).map (fun i=>(i.zero,i.size,i.bytes))=some (some (.agg #[.string ByteArray.empty,.int .i64 0,.int .i64 0]),3,32):=by kernel_rfl
def nmOk (s:ByteArray):Prop:=1≤s.size∧s.size≤64∧(uchk s).2=true
noncomputable instance (s:ByteArray):Decidable (nmOk s):=Classical.propDecidable _
noncomputable def sCode (ms:List MarkA) (m:MarkA) (cells:Int):Nat:=if ¬nmOk m.1 then 6 else if m.2.1<0∨cells<m.2.1∨m.2.2<0∨cells<m.2.2 then 12 else if ¬mIn ms m.1∧64≤ms.length then 16 else 0
noncomputable def sMs (ms:List MarkA) (m:MarkA) (cells:Int):List MarkA:=if sCode ms m cells=0 then mPut ms m else ms
noncomputable def dCode (ms:List MarkA) (k:ByteArray):Nat:=if mIn ms k then 0 else 16
noncomputable def dMs (ms:List MarkA) (k:ByteArray):List MarkA:=if mIn ms k then mDel ms k else ms
noncomputable def gMk (ms:List MarkA) (k:ByteArray):MarkA:=if mIn ms k then ms.getD (mIx ms k) mark0 else mark0
theorem sCode_6 {ms:List MarkA}{m:MarkA}{cells:Int}(h:¬nmOk m.1):sCode ms m cells=6:=if_pos h
theorem sCode_12 {ms:List MarkA}{m:MarkA}{cells:Int}(h:nmOk m.1)(h2:m.2.1<0∨cells<m.2.1∨m.2.2<0∨cells<m.2.2):sCode ms m cells=12:=by unfold sCode; rw[if_neg (fun h'=>h' h),if_pos h2]
theorem sCode_16 {ms:List MarkA}{m:MarkA}{cells:Int}(h:nmOk m.1)(h2:¬(m.2.1<0∨cells<m.2.1∨m.2.2<0∨cells<m.2.2))(h3:¬mIn ms m.1∧64≤ms.length):sCode ms m cells=16:=by unfold sCode; rw[if_neg (fun h'=>h' h),if_neg h2,if_pos h3]
theorem sCode_0 {ms:List MarkA}{m:MarkA}{cells:Int}(h:nmOk m.1)(h2:¬(m.2.1<0∨cells<m.2.1∨m.2.2<0∨cells<m.2.2))(h3:¬(¬mIn ms m.1∧64≤ms.length)):sCode ms m cells=0:=by unfold sCode; rw[if_neg (fun h'=>h' h),if_neg h2,if_neg h3]
theorem sMs_no {ms:List MarkA}{m:MarkA}{cells:Int}(h:sCode ms m cells≠0):sMs ms m cells=ms:=if_neg h
theorem sMs_put {ms:List MarkA}{m:MarkA}{cells:Int}(h:sCode ms m cells=0):sMs ms m cells=mPut ms m:=if_pos h
end Go.Proofs.YtlnnjfdonilgmaaGreatDoor
