import Derived.Test.YtlnnjfdonilgmaaGreatDoorChg
import Derived.Test.YtlnnjfdonilgmaaGreatDoorA2
import Derived.Sort.Walk0
import Derived.Test.YtlnnjfdonilgmaaGreatDoorMap
/- Patches: rising lists of attributes, looked up by their keys. Plain lists, no program. No condition. -/
set_option linter.unusedVariables false
set_option linter.unusedSimpArgs false
namespace Go.Proofs.YtlnnjfdonilgmaaGreatDoor
open Go RX

abbrev kl (a b:ByteArray):Bool:=Op.bytesLess a.toList b.toList
theorem kl_iff {a b:ByteArray}:kl a b=true↔a.toList<b.toList:=by unfold kl; rw[bytesLess_eq]; simp
theorem kl_irrefl (a:ByteArray):kl a a=false:=by
  cases h:kl a a with
  | false=>rfl
  | true=>exact absurd (kl_iff.1 h) (List.lt_irrefl _)
theorem kl_trans {a b c:ByteArray}(h1:kl a b=true)(h2:kl b c=true):kl a c=true:=kl_iff.2 (List.lt_trans (kl_iff.1 h1) (kl_iff.1 h2))
theorem kl_asymm {a b:ByteArray}(h:kl a b=true):kl b a=false:=by
  cases h2:kl b a with
  | false=>rfl
  | true=>have:=kl_trans h h2; rw[kl_irrefl]at this; cases this
theorem kl_tri {a b:ByteArray}(h1:kl a b=false)(h2:kl b a=false):a=b:=by
  refine bytes_ext (List.le_antisymm ?_ ?_)
  · exact fun h=>by rw[kl_iff.2 h]at h2; cases h2
  · exact fun h=>by rw[kl_iff.2 h]at h1; cases h1
theorem kl_ne {a b:ByteArray}(h:kl a b=true):a≠b:=fun e=>by subst e; rw[kl_irrefl]at h; cases h

end Go.Proofs.YtlnnjfdonilgmaaGreatDoor
set_option linter.unusedVariables false
set_option linter.unusedSimpArgs false
namespace Go.Proofs.YtlnnjfdonilgmaaGreatDoor
open Go Go.RowKit Go.Proofs.YtlnnjfdonilgmaaGreatDoorW.PrintWords RX
open Go.ChangeMaps (putKey delKey notKey)
abbrev MarkA :=ByteArray×Int×Int
def mark0 :MarkA:=(ByteArray.empty,0,0)
def mV (m:MarkA):Value:=.agg #[.string m.1,.int .i64 m.2.1,.int .i64 m.2.2]
def mC (m:MarkA):List Value:=[.string m.1,.int .i64 m.2.1,.int .i64 m.2.2]
def kMark :Kd MarkA:=Kd.pair Kd.string (Kd.pair (Kd.int .i64) (Kd.int .i64))
theorem kMark_K {w:World}{x:MarkA}{c:List Value}(h:kMark.K w x c):c=mC x:=by
  obtain⟨_,_,rfl,rfl,_,_,rfl,rfl,rfl⟩:=h
  rfl
theorem kMark_M (w:World)(base:Nat)(ok:Nat→Prop)(x:MarkA):kMark.M w base ok x (mC x):=⟨[.string x.1],_,rfl,rfl,[.int .i64 x.2.1],_,rfl,rfl,rfl⟩
theorem Kd.atMark {w:World}{A:Option Addr}{n:Nat}{xs:List MarkA}(h:kMark.C w A n xs){i:Int}(h0:0≤i)(h1:i<n):∃ ad,A=some ad∧CellsAt w (ad.add (i.toNat*3)) (mC (xs.getD i.toNat mark0)):=by
  obtain⟨ad,cs,e,hK,hc⟩:=Kd.atC h mark0 h0 h1
  obtain rfl:=kMark_K hK
  exact⟨ad,e,hc⟩
def mD (m:MarkA):DataW Unit:=.agg [.lit (.string m.1.data.toList),.lit (.int .i64 m.2.1),.lit (.int .i64 m.2.2)]
def markR :MapR:=fun v=>match v with
  | .agg a=>(match a.toList with
    | [.string n,.int .i64 x,.int .i64 y]=>some (mD (n,x,y),[])
    | _=>none)
  | _=>none
theorem mD_inj {a b:MarkA}(h:mD a=mD b):a=b:=by
  obtain⟨a1,a2,a3⟩:=a
  obtain⟨b1,b2,b3⟩:=b
  unfold mD at h
  simp only[DataW.agg.injEq,List.cons.injEq,DataW.lit.injEq,Lit.string.injEq,Lit.int.injEq,true_and,and_true]at h
  obtain⟨h1,h2,h3⟩:=h
  obtain rfl:a1=b1:=bytes_ext (by rw[ByteArray.toList_eq,ByteArray.toList_eq,h1])
  rw[h2,h3]
theorem markR_inv {v:Value}{d:DataW Unit}{ps:List MemPlace}(h:markR v=some (d,ps)):∃ m,v=mV m∧d=mD m:=by
  unfold markR at h
  split at h
  · rename_i a
    split at h
    · rename_i n x y he
      simp only[Option.some.injEq,Prod.mk.injEq]at h
      refine⟨(n,x,y),?_,h.1.symm⟩
      have:a=#[.string n,.int .i64 x,.int .i64 y]:=by rw[←he]
      rw[this]; rfl
    · cases h
  · cases h
abbrev mK (k:ByteArray):Lit:=.string k.data.toList
def mL (ms:List MarkA):List (Lit×DataW Unit):=ms.map fun m=>(mK m.1,mD m)
theorem before_kl (a b:ByteArray):(mK a).before (mK b)=kl a b:=by
  have h:∀ x y:List UInt8,bytesBefore x y=Op.bytesLess x y:=by
    intro x
    induction x with
    | nil=>intro y; cases y<;>rfl
    | cons a r ih=>intro y; cases y with
      | nil=>rfl
      | cons b s=>simp only[bytesBefore,Op.bytesLess,ih s]
  unfold kl
  rw[ByteArray.toList_eq,ByteArray.toList_eq]
  exact h _ _
theorem same_k (a b:ByteArray):(mK a).sameKey (mK b)=decide (a=b):=by
  show (a.data.toList==b.data.toList)=decide (a=b)
  by_cases h:a=b
  · subst h; simp
  · rw[decide_eq_false h,beq_eq_false_iff_ne]
    exact fun e=>h (bytes_ext (by rw[ByteArray.toList_eq,ByteArray.toList_eq,e]))
def RisM (ms:List MarkA):Prop:=ms.Pairwise fun a b=>kl a.1 b.1=true
theorem RisM.tail {x:MarkA}{ms:List MarkA}(h:RisM (x::ms)):RisM ms:=(List.pairwise_cons.1 h).2
theorem RisM.head {x:MarkA}{ms:List MarkA}(h:RisM (x::ms)):∀ y∈ms,kl x.1 y.1=true:=(List.pairwise_cons.1 h).1
theorem ris_of_map {ms:List MarkA}(h:(mL ms).Pairwise (fun p q=>p.1.before q.1=true)):RisM ms:=by
  unfold mL at h
  rw[List.pairwise_map]at h
  exact h.imp fun {a b} h=>by rw[before_kl]at h; exact h
def mPut :List MarkA→MarkA→List MarkA
  | [],m=>[m]
  | x::r,m=>if kl x.1 m.1=true then x::mPut r m else if x.1=m.1 then m::r else m::x::r
def mDel :List MarkA→ByteArray→List MarkA
  | [],_=>[]
  | x::r,k=>if kl x.1 k=true then x::mDel r k else if x.1=k then r else x::r
def mIx :List MarkA→ByteArray→Nat
  | [],_=>0
  | x::r,k=>if kl x.1 k=true then mIx r k+1 else 0
def mIn (ms:List MarkA)(k:ByteArray):Prop:=mIx ms k<ms.length∧(ms.getD (mIx ms k) mark0).1=k
instance (ms:List MarkA) (k:ByteArray):Decidable (mIn ms k):=inferInstanceAs (Decidable (_∧_))
theorem mix_le :∀ (ms:List MarkA) (k:ByteArray),mIx ms k≤ms.length
  | [],_=>Nat.le_refl _
  | x::r,k=>by unfold mIx; split<;>simp[mix_le r k]
theorem mix_lo :∀ (ms:List MarkA) (k:ByteArray) (i:Nat),i<mIx ms k→i<ms.length∧kl (ms.getD i mark0).1 k=true
  | [],_,i,h=>by simp[mIx]at h
  | x::r,k,i,h=>by
    unfold mIx at h
    split at h
    · rename_i hx
      cases i with
      | zero=>exact⟨by simp,by simpa using hx⟩
      | succ i=>
        obtain⟨h1,h2⟩:=mix_lo r k i (by omega)
        exact⟨by simpa using h1,by simpa using h2⟩
    · omega
theorem mix_at :∀ (ms:List MarkA) (k:ByteArray),¬(mIx ms k<ms.length∧kl (ms.getD (mIx ms k) mark0).1 k=true)
  | [],_=>by simp[mIx]
  | x::r,k=>by
    unfold mIx
    split
    · have:=mix_at r k
      simpa using this
    · rename_i hx
      rintro⟨_,h⟩
      exact hx (by simpa using h)
theorem mix_stop {ms:List MarkA}{k:ByteArray}{i:Nat}(h:i≤mIx ms k)(h1:¬(i<ms.length∧kl (ms.getD i mark0).1 k=true)):i=mIx ms k:=by
  rcases Nat.lt_or_ge i (mIx ms k)with h3|h3
  · exact absurd (mix_lo ms k i h3) h1
  · omega
theorem min_cons {x:MarkA}{r:List MarkA}{k:ByteArray}(h:kl x.1 k=true):mIn (x::r) k↔mIn r k:=by
  unfold mIn
  rw[show mIx (x::r) k=mIx r k+1 from by rw[mIx,if_pos h]]
  simp
theorem min_no {x:MarkA}{r:List MarkA}{k:ByteArray}(h:¬kl x.1 k=true):mIn (x::r) k↔x.1=k:=by
  unfold mIn
  rw[show mIx (x::r) k=0 from by rw[mIx,if_neg h]]
  simp
theorem mput_in :∀ {ms:List MarkA} {m:MarkA},mIn ms m.1→mPut ms m=ms.set (mIx ms m.1) m
  | [],m,h=>by simp[mIn]at h
  | x::r,m,h=>by
    unfold mPut mIx
    by_cases hx:kl x.1 m.1=true
    · rw[if_pos hx,if_pos hx,mput_in ((min_cons hx).1 h)]; rfl
    · rw[if_neg hx,if_neg hx,if_pos ((min_no hx).1 h)]; rfl
theorem mput_out :∀ {ms:List MarkA} {m:MarkA},¬mIn ms m.1→mPut ms m=ms.take (mIx ms m.1)++m::ms.drop (mIx ms m.1)
  | [],m,h=>rfl
  | x::r,m,h=>by
    unfold mPut mIx
    by_cases hx:kl x.1 m.1=true
    · rw[if_pos hx,if_pos hx,mput_out (fun h1=>h ((min_cons hx).2 h1))]; rfl
    · rw[if_neg hx,if_neg hx,if_neg (fun h1=>h ((min_no hx).2 h1))]; rfl
theorem mput_len :∀ (ms:List MarkA) (m:MarkA),(mPut ms m).length=if mIn ms m.1 then ms.length else ms.length+1:=by
  intro ms m
  by_cases h:mIn ms m.1
  · rw[if_pos h,mput_in h,List.length_set]
  · have:=mix_le ms m.1
    rw[if_neg h,mput_out h]
    simp only[List.length_append,List.length_take,List.length_cons,List.length_drop]
    omega
theorem mfilt_hi :∀ {r:List MarkA} {k:ByteArray},(∀ y∈r,kl k y.1=true)→(mL r).filter (notKey (mK k))=mL r:=by
  intro r k h
  rw[List.filter_eq_self]
  intro p hp
  obtain⟨m,hm,rfl⟩:=List.mem_map.1 hp
  unfold notKey
  rw[same_k]
  simp only[Bool.not_eq_true',decide_eq_false_iff_not]
  exact fun e=>kl_ne (h m hm) e.symm
theorem mput_key :∀ {ms:List MarkA},RisM ms→∀ m:MarkA,putKey (mK m.1) (mD m) (mL ms)=mL (mPut ms m)
  | [],_,m=>rfl
  | x::r,hR,m=>by
    have ih:=mput_key hR.tail m
    unfold putKey at ih ⊢
    unfold mPut
    show DataW.insert _ (List.filter _ ((mK x.1,mD x)::mL r))=_
    by_cases hx:kl x.1 m.1=true
    · rw[if_pos hx,List.filter_cons,if_pos (by unfold notKey; rw[same_k]; simpa using kl_ne hx)]
      show (if (mK m.1).before (mK x.1)then _ else _)=_
      rw[before_kl,if_neg (by rw[kl_asymm hx]; decide),ih]; rfl
    · rw[if_neg hx]
      by_cases he:x.1=m.1
      · rw[if_pos he,List.filter_cons,if_neg (by unfold notKey; rw[same_k]; simpa using he),mfilt_hi (fun y hy=>by rw[←he]; exact hR.head y hy)]
        cases r with
        | nil=>rfl
        | cons y r=>show (if (mK m.1).before (mK y.1)then _ else _)=_; rw[before_kl,if_pos (by rw[←he]; exact hR.head y (by simp))]; rfl
      · have hmx:kl m.1 x.1=true:=by
          cases h:kl m.1 x.1 with
          | true=>rfl
          | false=>exact absurd (kl_tri (by simpa using hx) h) he
        rw[if_neg he,List.filter_cons,if_pos (by unfold notKey; rw[same_k]; simpa using he)]
        show (if (mK m.1).before (mK x.1)then _ else _)=_
        rw[before_kl,if_pos hmx,mfilt_hi (fun y hy=>kl_trans hmx (hR.head y hy))]; rfl
theorem mdel_key :∀ {ms:List MarkA},RisM ms→∀ k:ByteArray,delKey (mK k) (mL ms)=mL (mDel ms k)
  | [],_,k=>rfl
  | x::r,hR,k=>by
    have ih:=mdel_key hR.tail k
    unfold delKey at ih ⊢
    unfold mDel
    show List.filter _ ((mK x.1,mD x)::mL r)=_
    by_cases hx:kl x.1 k=true
    · rw[if_pos hx,List.filter_cons,if_pos (by unfold notKey; rw[same_k]; simpa using kl_ne hx),ih]; rfl
    · rw[if_neg hx]
      by_cases he:x.1=k
      · rw[if_pos he,List.filter_cons,if_neg (by unfold notKey; rw[same_k]; simpa using he),mfilt_hi (fun y hy=>by rw[←he]; exact hR.head y hy)]
      · have hmx:kl k x.1=true:=by
          cases h:kl k x.1 with
          | true=>rfl
          | false=>exact absurd (kl_tri (by simpa using hx) h) he
        rw[if_neg he,List.filter_cons,if_pos (by unfold notKey; rw[same_k]; simpa using he),mfilt_hi (fun y hy=>kl_trans hmx (hR.head y hy))]; rfl
def mFind (L:List (Lit×DataW Unit))(k:Lit)(z:DataW Unit):DataW Unit:=((L.find? fun p=>p.1.sameKey k).map (·.2)).getD z
theorem atKey_f (L:List (Lit×DataW Unit))(k:Lit)(z:DataW Unit):(DataW.map L).atKey k z=mFind L k z:=by
  simp only[DataW.atKey,mFind]
  cases L.find? (fun p=>p.1.sameKey k)<;>rfl
theorem mfind_cons (q k:Lit)(d z:DataW Unit)(r:List (Lit×DataW Unit)):mFind ((q,d)::r) k z=if q.sameKey k=true then d else mFind r k z:=by
  unfold mFind
  rw[List.find?_cons]
  cases h:q.sameKey k<;>simp[h]
theorem mfind_hi :∀ {r:List MarkA} {k:ByteArray},(∀ y∈r,kl k y.1=true)→∀ z,mFind (mL r) (mK k) z=z
  | [],k,_,z=>rfl
  | x::r,k,h,z=>by
    show mFind ((mK x.1,mD x)::mL r) (mK k) z=z
    rw[mfind_cons,same_k,if_neg (by simpa using fun e=>kl_ne (h x (by simp)) e.symm)]
    exact mfind_hi (fun y hy=>h y (by simp[hy])) z
theorem mat_in :∀ {ms:List MarkA} {k:ByteArray},RisM ms→mIn ms k→∀ z,mFind (mL ms) (mK k) z=mD (ms.getD (mIx ms k) mark0)
  | [],k,_,h,z=>by simp[mIn]at h
  | x::r,k,hR,h,z=>by
    show mFind ((mK x.1,mD x)::mL r) (mK k) z=_
    rw[mfind_cons,same_k]
    by_cases hx:kl x.1 k=true
    · rw[if_neg (by simpa using kl_ne hx),show mIx (x::r) k=mIx r k+1 from by rw[mIx,if_pos hx],mat_in hR.tail ((min_cons hx).1 h) z]
      rfl
    · rw[if_pos (by simpa using(min_no hx).1 h),show mIx (x::r) k=0 from by rw[mIx,if_neg hx]]
      rfl
theorem mat_out :∀ {ms:List MarkA} {k:ByteArray},RisM ms→¬mIn ms k→∀ z,mFind (mL ms) (mK k) z=z
  | [],k,_,_,z=>rfl
  | x::r,k,hR,h,z=>by
    show mFind ((mK x.1,mD x)::mL r) (mK k) z=_
    rw[mfind_cons,same_k]
    by_cases hx:kl x.1 k=true
    · rw[if_neg (by simpa using kl_ne hx)]
      exact mat_out hR.tail (fun h1=>h ((min_cons hx).2 h1)) z
    · have he:¬x.1=k:=fun h1=>h ((min_no hx).2 h1)
      have hmx:kl k x.1=true:=by
        cases h:kl k x.1 with
        | true=>rfl
        | false=>exact absurd (kl_tri (by simpa using hx) h) he
      rw[if_neg (by simpa using he)]
      exact mfind_hi (fun y hy=>kl_trans hmx (hR.head y hy)) z
theorem MapL.risM {P:Program}{kt:TypeId}{R:MapR}{w:World}{B:Nat}{ms:List MarkA}(h:MapL P kt R w B (mL ms))(K:Maps.Keyed P kt):RisM ms:=ris_of_map (MapL.rising h K)
section
variable {P : Program} {l : Slots} {kt et t ty : TypeId} {x k : Operand} {B : Nat} {ms : List MarkA} {n : ByteArray} {w : World}
theorem look_in (c:Bool)(K:Maps.Keyed P kt)(ht:P.underlying t=some (.map kt et))(hz:∀ w:World,(zeroValue et).run P w=.ok (mV mark0) w)(hkey:keyOf P kt (.string n)=some (mK n))(hM:MapL P kt markR w B (mL ms))(hin:mIn ms n):
    (Instr.lookup t (.map (some B)) (.string n) c).run P w=.ok (if c then .tuple #[mV (ms.getD (mIx ms n) mark0),.bool true]else mV (ms.getD (mIx ms n) mark0)) w:=by
  have hR:=MapL.risM hM K
  obtain⟨es,clock,hb,F,_,hD⟩:=hM
  rcases Maps.fit_look c K ht (hz w) hb F hkey with ⟨_,_,hat⟩|⟨e0,y,_,_,hrun,hRv,hat,_⟩
  · have h1:=hat (.map [])
    rw[←hD,atKey_f,mat_in hR hin]at h1
    unfold mD at h1
    cases h1
  · have h1:=hat (.map [])
    rw[←hD,atKey_f,mat_in hR hin]at h1
    obtain⟨m,e1,e2⟩:=markR_inv (d:=y.1) (ps:=y.2) hRv
    rw[e2]at h1
    rw[hrun,e1,mD_inj h1]
theorem look_out (c:Bool)(K:Maps.Keyed P kt)(ht:P.underlying t=some (.map kt et))(hz:∀ w:World,(zeroValue et).run P w=.ok (mV mark0) w)(hkey:keyOf P kt (.string n)=some (mK n))(hM:MapL P kt markR w B (mL ms))(hin:¬mIn ms n):
    (Instr.lookup t (.map (some B)) (.string n) c).run P w=.ok (if c then .tuple #[mV mark0,.bool false]else mV mark0) w:=by
  have hR:=MapL.risM hM K
  obtain⟨es,clock,hb,F,_,hD⟩:=hM
  rcases Maps.fit_look c K ht (hz w) hb F hkey with ⟨hrun,_,hat⟩|⟨e0,y,_,_,_,hRv,hat,_⟩
  · exact hrun
  · have h1:=hat (.map [])
    have h2:=hat (.agg [])
    rw[←hD,atKey_f,mat_out hR hin]at h1 h2
    rw[←h1]at h2
    cases h2
theorem runs_look (hx:RX.ev l x=some (.map (some B)))(hk:RX.ev l k=some (.string n)){c:Bool}{v:Value}(h:(Instr.lookup t (.map (some B)) (.string n) c).run P w=.ok v w):RunsAs P l (.lookup t x k c) ty v w:=by
  intro o ho _
  have e1:evD l x=.map (some B):=by rw[evD,hx]; rfl
  have e2:evD l k=.string n:=by rw[evD,hk]; rfl
  unfold execOp
  simp only[ho,e1,e2,Sem.run_bind,Sem.run_pure,Result.andThen_ok,h]
theorem runs_mapLen (hx:RX.ev l x=some (.map (some B)))(ht:P.underlying t=some (.map kt et))(hM:MapL P kt markR w B (mL ms)):RunsAs P l (.call { callee:=.builtin .len,args:=#[x],argTypes:=#[t] }) ty (.int .i64 (ms.length:Int)) w:=by
  intro o ho _
  have e1:evD l x=.map (some B):=by rw[evD,hx]; rfl
  obtain⟨es,clock,hb,hs⟩:=hM.size
  have hl:(mL ms).length=ms.length:=List.length_map ..
  have hr:∀ ty,(Builtin.len_ #[t] ty #[.map (some B)]).run P w=.ok (.int .i64 (ms.length:Int)) w:=fun ty=>by
    simp[Builtin.len_,run_underlying ht,MapKept.run_getObj_map hb,Result.andThen,hs,goInt,hl]
  unfold execOp
  simp only[ho,resolve,invoke,builtin,Sem.run_bind,Sem.run_pure,Result.andThen_ok,List.map_toArray,List.map_cons,List.map_nil,e1,hr]
end
end Go.Proofs.YtlnnjfdonilgmaaGreatDoor
