import Derived.Test.YtlnnjfdonilgmaaGreatDoorUtf
import Derived.Shelf.Unicode.DecodeSlow
import Derived.Laws.Cover4
import Derived.Laws.IdiomStrings
import Derived.Lib.ValidAsc
import Derived.Test.YtlnnjfdonilgmaaGreatDoorA1
/- UTF-8, plainly: what Go's and the program's ways over a text answer, by its scalars. Plain, no program. No condition. -/
set_option linter.unusedVariables false
set_option linter.unusedSimpArgs false
set_option maxRecDepth 100000
namespace Go.Proofs.YtlnnjfdonilgmaaGreatDoor.U
open Go Go.Lib

abbrev bl (s:ByteArray):List UInt8:=s.data.toList
theorem bl_size (s:ByteArray):(bl s).length=s.size:=by rw[bl,Array.length_toList]; rfl
theorem bl_drop (s:ByteArray)(k:Nat):bl (s.extract k s.size)=(bl s).drop k:=ext_list s k
theorem bl_inj {s t:ByteArray}(h:bl s=bl t):s=t:=by cases s; cases t; simp only[ByteArray.mk.injEq]; exact Array.toList_inj.1 h
noncomputable def sc (s:ByteArray):List Nat:=(brk_ex _ (bl s) (Nat.le_refl _)).choose
noncomputable def tl (s:ByteArray):List UInt8:=(brk_ex _ (bl s) (Nat.le_refl _)).choose_spec.choose
theorem brk (s:ByteArray):Brk (bl s) (sc s) (tl s):=(brk_ex _ (bl s) (Nat.le_refl _)).choose_spec.choose_spec
theorem brk_sc {s:ByteArray}{rs:List Nat}{t:List UInt8}(h:Brk (bl s) rs t):sc s=rs∧tl s=t:=brk_un (brk s) h
theorem sc_ok (s:ByteArray):∀ r∈sc s,vr r:=(brk s).ok
noncomputable def brkAt (s:ByteArray):Nat:=(flat (sc s)).length
noncomputable def utf (s:ByteArray):Prop:=tl s=[]
theorem brkAt_le (s:ByteArray):brkAt s+(tl s).length=s.size:=by
  have:=congrArg List.length (brk s).eq
  rw[bl_size,List.length_append]at this
  unfold brkAt; omega
theorem utf_iff (s:ByteArray):utf s↔brkAt s=s.size:=by
  have:=brkAt_le s
  unfold utf
  constructor
  · intro h; rw[h]at this; simpa using this
  · intro h; exact List.length_eq_zero_iff.1 (by omega)
theorem utf_flat {s:ByteArray}(h:utf s):bl s=flat (sc s):=by have:=(brk s).eq; rw[h,List.append_nil]at this; exact this
theorem utf_of {s:ByteArray}{rs:List Nat}(hr:∀ r∈rs,vr r)(h:bl s=flat rs):utf s∧sc s=rs:=by
  obtain⟨h1,h2⟩:=brk_sc (s:=s) (h▸brk_flat hr)
  exact⟨h2,h1⟩
theorem sc_le (s:ByteArray):(sc s).length≤s.size:=by
  have h1:=flat_le (sc s)
  have h2:=brkAt_le s
  unfold brkAt at h2
  omega

theorem validGo_brk :∀ (n:Nat) (l:List UInt8) (rs:List Nat) (t:List UInt8),l.length≤n→Brk l rs t→validGoD n l=decide (t=[])
  | 0,l,rs,t,hn,h=>by
    obtain rfl:l=[]:=List.length_eq_zero_iff.1 (by omega)
    have:=(List.append_eq_nil_iff.1 h.eq.symm).2
    subst this
    simp[validGoD]
  | n+1,l,rs,t,hn,h=>by
    unfold validGoD
    have hd:decodeL l=decL l:=by
      have:=decode_L ⟨l.toArray⟩ 0
      simpa [decodeL] using this
    rw[hd]
    match rs,h with
    | [],h=>
      have hl:l=t:=by simpa [flat] using h.eq
      subst hl
      by_cases h0:l=[]
      · simp[h0]
      · have:(decL l).1=65533∧(decL l).2=1:=Classical.byContradiction fun hc=>h.stop (starts_dec.2 ⟨h0,hc⟩)
        rw[if_neg h0,if_pos this,decide_eq_false h0]
    | r::rs,h=>
      have h0:Starts l:=⟨r,h.ok r (by simp),by rw[h.eq,flat_cons,List.append_assoc]; exact List.prefix_append _ _⟩
      obtain⟨h1,h2⟩:=starts_dec.1 h0
      obtain⟨h3,h4⟩:=brk_step h
      rw[if_neg h1,if_neg h2,h3]
      have:=(enc_len r).1
      have hx:(l.drop (enc r).length).length≤n:=by
        rw[List.length_drop]
        have h9:0<l.length:=List.length_pos_iff.2 h1
        generalize (enc r).length=L at this ⊢
        omega
      simp only
      exact validGo_brk n (l.drop (enc r).length) rs t hx h4
theorem valid_utf (s:ByteArray):validD (bl s)=decide (tl s=[]):=validGo_brk _ _ _ _ (Nat.le_refl _) (brk s)

theorem count_brk (s:ByteArray):∀ (f pos:Nat) (rs:List Nat),s.size-pos≤f→pos≤s.size→Brk ((bl s).drop pos) rs []→runeCountFrom s f pos=rs.length
  | f,pos,[],hf,hp,h=>by
    have e:(bl s).drop pos=[]:=by simpa [flat] using h.eq
    have:s.size≤pos:=by rw[←bl_size]; exact List.drop_eq_nil_iff.1 e
    exact runeCountFrom_end s f pos (by omega)
  | f,pos,r::rs,hf,hp,h=>by
    obtain⟨h3,h4⟩:=brk_step h
    have hl:=congrArg List.length h.eq
    rw[List.length_drop,bl_size,flat_cons]at hl
    simp only[List.length_append,List.length_nil]at hl
    have:=(enc_len r).1
    obtain⟨f,rfl⟩:∃ f',f=f'+1:=⟨f-1,by omega⟩
    unfold runeCountFrom
    rw[if_pos (by omega),decode_L,h3]
    rw[List.drop_drop]at h4
    simp only
    rw[count_brk s f (pos+(enc r).length) rs (by omega) (by omega) h4,List.length_cons]
    omega
theorem count_utf {s:ByteArray}(h:utf s):runeCount s=(sc s).length:=count_brk s _ 0 _ (by omega) (by omega) (by have:=brk s; rw[h]at this; simpa using this)

theorem foldl_bl (ns:List Nat):∀ (s:ByteArray),bl ((ns.map fun(r:Nat)=>(r:Int)).foldl (fun r n=>r++Utf8.encode n) s)=bl s++flat ns:=by
  induction ns with
  | nil=>intro s; simp[flat]
  | cons n ns ih=>
    intro s
    rw[List.map_cons,List.foldl_cons,ih,flat_cons,←List.append_assoc]
    simp[bl,enc]
theorem runesBytes_flat (ns:List Nat):bl (runesBytes (ns.map fun(r:Nat)=>(r:Int)))=flat ns:=by
  unfold runesBytes
  rw[foldl_bl]
  rfl
theorem bl_extract (s:ByteArray)(i j:Nat):bl (s.extract i j)=((bl s).drop i).take (j-i):=by
  unfold bl
  rw[extract_data]
theorem decodeGo_eq (s:ByteArray):Lib.decodeGo s=if s.size=0 then (65533,0)else decL (bl s):=by
  show Lib.decodeGoB s=_
  unfold decodeGoB
  rw[decode_L]
  simp
def headP :List Nat→Nat×Nat
  | []=>(0,0)
  | r::_=>(r,(enc r).length)
theorem nextP_brk {s:ByteArray}{rs:List Nat}{t:List UInt8}(h:Brk (bl s) rs t):nextP s=headP rs:=by
  unfold nextP
  rw[decodeGo_eq]
  match rs,h with
  | [],h=>
    have e:bl s=t:=by simpa [flat] using h.eq
    by_cases h0:s.size=0
    · simp[h0,headP]
    · rw[if_neg h0]
      have hne:bl s≠[]:=fun e0=>h0 (by rw[←bl_size,e0]; rfl)
      have:(decL (bl s)).1=65533∧(decL (bl s)).2=1:=Classical.byContradiction fun hc=>h.stop (by rw[←e]; exact starts_dec.2 ⟨hne,hc⟩)
      rw[if_pos ⟨this.1,by omega⟩]; rfl
  | r::rs,h=>
    obtain⟨h3,h4⟩:=brk_step h
    have hst:Starts (bl s):=⟨r,h.ok r (by simp),by rw[h.eq,flat_cons,List.append_assoc]; exact List.prefix_append _ _⟩
    obtain⟨h1,h2⟩:=starts_dec.1 hst
    have h0:¬s.size=0:=fun e0=>h1 (List.length_eq_zero_iff.1 (by rw[bl_size]; exact e0))
    rw[if_neg h0,h3]
    rw[if_neg]
    · rfl
    · rintro⟨e1,e2⟩
      simp only at e1 e2
      rw[h3]at h2
      simp only at h2
      have:=(enc_len r).1
      exact h2 ⟨e1,by omega⟩
theorem uloop_brk (s:ByteArray):∀ (rs:List Nat) (t:List UInt8) (k f:Nat),Brk ((bl s).drop k) rs t→k≤s.size→s.size-k≤f→uloop s f k=(s.size-t.length,decide (t=[]))
  | [],t,k,f,h,hk,hf=>by
    have e:(bl s).drop k=t:=by simpa [flat] using h.eq
    have hl:t.length=s.size-k:=by rw[←e,List.length_drop,bl_size]
    by_cases hlt:k<s.size
    · obtain⟨f,rfl⟩:∃ f',f=f'+1:=⟨f-1,by omega⟩
      have hn:=nextP_brk (s:=s.extract k s.size) (rs:=[]) (t:=t) (by rw[bl_drop]; exact h)
      simp only[uloop]
      rw[if_pos hlt,hn]
      have:¬t=[]:=fun e0=>by rw[e0]at hl; simp at hl; omega
      simp only[headP,if_true,decide_eq_false this,Prod.mk.injEq,and_true]
      omega
    · have:t=[]:=List.length_eq_zero_iff.1 (by omega)
      subst this
      cases f with
      | zero=>simp only[uloop]; simp; omega
      | succ f=>simp only[uloop]; rw[if_neg hlt]; simp; omega
  | r::rs,t,k,f,h,hk,hf=>by
    obtain⟨h3,h4⟩:=brk_step h
    have hl:=congrArg List.length h.eq
    rw[List.length_drop,bl_size,flat_cons]at hl
    simp only[List.length_append]at hl
    have:=(enc_len r).1
    obtain⟨f,rfl⟩:∃ f',f=f'+1:=⟨f-1,by omega⟩
    have hn:=nextP_brk (s:=s.extract k s.size) (rs:=r::rs) (t:=t) (by rw[bl_drop]; exact h)
    rw[List.drop_drop]at h4
    have h8:headP (r::rs)=(r,(enc r).length):=rfl
    rw[h8]at hn
    generalize (enc r).length=L at*
    simp only[uloop]
    rw[if_pos (by omega),hn]
    simp only
    rw[if_neg (by omega)]
    exact uloop_brk s rs t _ f h4 (by omega) (by omega)
theorem uchk_eq (s:ByteArray):uchk s=(brkAt s,decide (tl s=[])):=by
  have h:=uloop_brk s (sc s) (tl s) 0 s.size (by simpa using brk s) (by omega) (by omega)
  have:=brkAt_le s
  unfold uchk
  rw[h]
  simp only[Prod.mk.injEq,and_true]
  omega

noncomputable def lenP (s:ByteArray):Nat×Nat:=if tl s=[]then ((sc s).length,0)else (0,1)
def vz (r:Int):Prop:=0≤r∧vr r.toNat
instance (r:Int):Decidable (vz r):=by unfold vz; exact inferInstance
theorem vz_map {l:List Int}(h:∀ r∈l,vz r):∃ rs:List Nat,l=rs.map (fun(r:Nat)=>(r:Int))∧∀ r∈rs,vr r:=by
  refine⟨l.map Int.toNat,?_,?_⟩
  · rw[List.map_map]
    conv=>lhs; rw[←List.map_id l]
    refine List.map_congr_left fun r hr=>?_
    have:=(h r hr).1
    simp; omega
  · intro r hr
    obtain⟨x,hx,rfl⟩:=List.mem_map.1 hr
    exact(h x hx).2
theorem text_utf {l:List Int}(h:∀ r∈l,vz r):utf (runesBytes l)∧(sc (runesBytes l)).map (fun(r:Nat)=>(r:Int))=l:=by
  obtain⟨rs,rfl,hr⟩:=vz_map h
  obtain⟨h1,h2⟩:=utf_of (s:=runesBytes (rs.map fun(r:Nat)=>(r:Int))) hr (runesBytes_flat rs)
  exact⟨h1,by rw[h2]⟩
end Go.Proofs.YtlnnjfdonilgmaaGreatDoor.U
