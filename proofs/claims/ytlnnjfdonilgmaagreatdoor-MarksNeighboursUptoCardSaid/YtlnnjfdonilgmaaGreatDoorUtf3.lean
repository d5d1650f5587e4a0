import Derived.Lib.ValidU
import Derived.Lib.RuneCountTail
import Derived.Shelf.Unicode.DecodeSlow
import Derived.Laws.Cover4
import Derived.Laws.IdiomStrings
import Derived.Lib.ValidAsc
import Derived.Test.YtlnnjfdonilgmaaGreatDoorA1
/- UTF-8, plainly: encodings of scalars, how a list of bytes begins, where it breaks. Plain lists, no program. No condition. -/
set_option linter.unusedVariables false
set_option linter.unusedSimpArgs false
set_option maxRecDepth 1000000
namespace Go.Proofs.YtlnnjfdonilgmaaGreatDoor.U
open Go Go.Lib

def vr (r:Nat):Prop:=r<55296∨(57344≤r∧r≤1114111)
instance (r:Nat):Decidable (vr r):=by unfold vr; exact inferInstance
def enc (r:Nat):List UInt8:=(Utf8.encode (r:Int)).data.toList
theorem valid_vr (r:Nat):Utf8.valid (r:Int)=decide (vr r):=by
  rw[Bool.eq_iff_iff,decide_eq_true_iff]
  unfold Utf8.valid vr
  simp only[Bool.or_eq_true,Bool.and_eq_true,decide_eq_true_iff]
  omega
theorem enc_1 {r:Nat}(h:r<128):enc r=[UInt8.ofNat r]:=by
  unfold enc Utf8.encode
  rw[valid_vr,decide_eq_true (show vr r by unfold vr; omega)]
  simp[h]
theorem enc_2 {r:Nat}(h0:128≤r)(h:r<2048):enc r=[UInt8.ofNat (192+r/64),UInt8.ofNat (128+r%64)]:=by
  unfold enc Utf8.encode
  rw[valid_vr,decide_eq_true (show vr r by unfold vr; omega)]
  simp[h,show ¬r<128 by omega]
theorem enc_3 {r:Nat}(hv:vr r)(h0:2048≤r)(h:r<65536):enc r=[UInt8.ofNat (224+r/4096),UInt8.ofNat (128+r/64%64),UInt8.ofNat (128+r%64)]:=by
  unfold enc Utf8.encode
  rw[valid_vr,decide_eq_true hv]
  simp[h,show ¬r<128 by omega,show ¬r<2048 by omega]
theorem enc_4 {r:Nat}(hv:vr r)(h0:65536≤r):enc r=[UInt8.ofNat (240+r/262144),UInt8.ofNat (128+r/4096%64),UInt8.ofNat (128+r/64%64),UInt8.ofNat (128+r%64)]:=by
  unfold enc Utf8.encode
  rw[valid_vr,decide_eq_true hv]
  simp[show ¬r<128 by omega,show ¬r<2048 by omega,show ¬r<65536 by omega]
theorem enc_len (r:Nat):1≤(enc r).length∧(enc r).length≤4:=by
  unfold enc Utf8.encode
  simp only
  repeat' split
  all_goals simp

def g (l:List UInt8)(k:Nat):Nat:=(l.getD k 0).toNat
def decL (l:List UInt8):Nat×Nat:=decodeN l.length (g l 0) (g l 1) (g l 2) (g l 3)
theorem decode_L (s:ByteArray)(i:Nat):Utf8.decode s i=decL (s.data.toList.drop i):=by
  have h:∀ k,(s.get! (i+k)).toNat=g (s.data.toList.drop i) k:=by
    intro k
    unfold g
    rw[←getD_get!',List.getD_eq_getElem?_getD,List.getD_eq_getElem?_getD,List.getElem?_drop]
  rw[decode_at]
  unfold decL
  rw[h 1,h 2,h 3,←h 0,Nat.add_zero]
  congr 1
  rw[List.length_drop,Array.length_toList]
  rfl

set_option maxHeartbeats 4000000 in
theorem dec_enc {r:Nat}(hv:vr r)(t:List UInt8):decL (enc r++t)=(r,(enc r).length):=by
  have hv':=hv
  unfold vr at hv'
  by_cases h1:r<128
  · rw[enc_1 h1]
    simp only[decL,g,List.cons_append,List.nil_append,List.getD_cons_zero,List.getD_cons_succ,UInt8.toNat_ofNat',List.length_cons,List.length_nil]
    unfold decodeN
    rw[Nat.mod_eq_of_lt (by omega),if_pos h1]
  · by_cases h2:r<2048
    · rw[enc_2 (by omega) h2]
      simp only[decL,g,List.cons_append,List.nil_append,List.getD_cons_zero,List.getD_cons_succ,UInt8.toNat_ofNat',List.length_cons,List.length_nil]
      unfold decodeN
      rw[Nat.mod_eq_of_lt (by omega:192+r/64<2^8),Nat.mod_eq_of_lt (by omega:128+r%64<2^8)]
      have e:(192+r/64)%32*64+(128+r%64)%64=r:=by omega
      rw[if_neg (by omega),if_pos (by omega),e,if_pos (by omega)]
    · by_cases h3:r<65536
      · rw[enc_3 hv (by omega) h3]
        simp only[decL,g,List.cons_append,List.nil_append,List.getD_cons_zero,List.getD_cons_succ,UInt8.toNat_ofNat',List.length_cons,List.length_nil]
        unfold decodeN
        rw[Nat.mod_eq_of_lt (by omega:224+r/4096<2^8),Nat.mod_eq_of_lt (by omega:128+r/64%64<2^8),Nat.mod_eq_of_lt (by omega:128+r%64<2^8)]
        have e:(224+r/4096)%16*4096+(128+r/64%64)%64*64+(128+r%64)%64=r:=by omega
        rw[if_neg (by omega),if_neg (by omega),if_pos (by omega),e,if_pos (by omega)]
      · rw[enc_4 hv (by omega)]
        simp only[decL,g,List.cons_append,List.nil_append,List.getD_cons_zero,List.getD_cons_succ,UInt8.toNat_ofNat',List.length_cons,List.length_nil]
        unfold decodeN
        rw[Nat.mod_eq_of_lt (by omega:240+r/262144<2^8),Nat.mod_eq_of_lt (by omega:128+r/4096%64<2^8),Nat.mod_eq_of_lt (by omega:128+r/64%64<2^8),Nat.mod_eq_of_lt (by omega:128+r%64<2^8)]
        have e:(240+r/262144)%8*262144+(128+r/4096%64)%64*4096+(128+r/64%64)%64*64+(128+r%64)%64=r:=by omega
        rw[if_neg (by omega),if_neg (by omega),if_neg (by omega),if_pos (by omega),e,if_pos (by omega)]

theorem u8_eq {x:UInt8}{n:Nat}(h:x.toNat=n):UInt8.ofNat n=x:=by
  rw[←h]; exact UInt8.ofNat_toNat
set_option maxHeartbeats 4000000 in
theorem enc_dec {l:List UInt8}(h0:l≠[])(hg:¬((decL l).1=65533∧(decL l).2=1)):vr (decL l).1∧(decL l).2=(enc (decL l).1).length∧enc (decL l).1 <+: l:=by
  obtain⟨x0,t,rfl⟩:∃ x t,l=x::t:=by cases l with|nil=>exact absurd rfl h0|cons x t=>exact⟨x,t,rfl⟩
  have g0:g (x0::t) 0=x0.toNat:=rfl
  have b0:=x0.toNat_lt
  by_cases h1:x0.toNat<128
  · have e:decL (x0::t)=(x0.toNat,1):=by unfold decL decodeN; rw[g0,if_pos h1]
    rw[e,enc_1 h1,u8_eq rfl]
    exact⟨by unfold vr; omega,rfl,⟨t,rfl⟩⟩
  · match t with
    | []=>
      exfalso
      refine hg ?_
      unfold decL decodeN
      rw[g0,if_neg h1,if_neg (by simp),if_neg (by simp),if_neg (by simp)]
      simp
    | x1::t=>
      have g1:g (x0::x1::t) 1=x1.toNat:=rfl
      have b1:=x1.toNat_lt
      by_cases h2:x0.toNat/32=6∧x1.toNat/64=2
      · by_cases h3:x0.toNat%32*64+x1.toNat%64≥128
        · have e:decL (x0::x1::t)=(x0.toNat%32*64+x1.toNat%64,2):=by
            unfold decL decodeN
            rw[g0,g1,if_neg h1,if_pos ⟨h2.1,by simp,h2.2⟩,if_pos h3]
          rw[e]
          refine⟨by unfold vr; simp only; omega,?_,?_⟩
          · simp only; rw[enc_2 h3 (by omega)]; rfl
          · simp only; rw[enc_2 h3 (by omega),u8_eq (x:=x0) (by omega),u8_eq (x:=x1) (by omega)]; exact⟨t,rfl⟩
        · exfalso
          refine hg ?_
          unfold decL decodeN
          rw[g0,g1,if_neg h1,if_pos ⟨h2.1,by simp,h2.2⟩,if_neg h3]
          simp
      · match t with
        | []=>
          exfalso
          refine hg ?_
          unfold decL decodeN
          rw[g0,g1,if_neg h1,if_neg (fun h=>h2 ⟨h.1,h.2.2⟩),if_neg (by simp),if_neg (by simp)]
          simp
        | x2::t=>
          have g2:g (x0::x1::x2::t) 2=x2.toNat:=rfl
          have b2:=x2.toNat_lt
          have g1:g (x0::x1::x2::t) 1=x1.toNat:=rfl
          have g0:g (x0::x1::x2::t) 0=x0.toNat:=rfl
          by_cases h3:x0.toNat/16=14∧x1.toNat/64=2∧x2.toNat/64=2
          · obtain⟨c,hc⟩:∃ c,x0.toNat%16*4096+x1.toNat%64*64+x2.toNat%64=c:=⟨_,rfl⟩
            by_cases h4:c≥2048∧(c<55296∨(57344≤c∧c≤1114111))
            · have e:decL (x0::x1::x2::t)=(c,3):=by
                unfold decL decodeN
                rw[g0,g1,g2,hc,if_neg h1,if_neg (fun h=>h2 ⟨h.1,h.2.2⟩),if_pos ⟨h3.1,⟨by simp,h3.2.1⟩,by simp,h3.2.2⟩,if_pos h4]
              have hv:vr c:=h4.2
              rw[e]
              refine⟨hv,?_,?_⟩
              · simp only; rw[enc_3 hv h4.1 (by omega)]; rfl
              · simp only; rw[enc_3 hv h4.1 (by omega),u8_eq (x:=x0) (by omega),u8_eq (x:=x1) (by omega),u8_eq (x:=x2) (by omega)]; exact⟨t,rfl⟩
            · exfalso
              refine hg ?_
              unfold decL decodeN
              rw[g0,g1,g2,hc,if_neg h1,if_neg (fun h=>h2 ⟨h.1,h.2.2⟩),if_pos ⟨h3.1,⟨by simp,h3.2.1⟩,by simp,h3.2.2⟩,if_neg h4]
              simp
          · match t with
            | []=>
              exfalso
              refine hg ?_
              unfold decL decodeN
              rw[g0,g1,g2,if_neg h1,if_neg (fun h=>h2 ⟨h.1,h.2.2⟩),if_neg (fun h=>h3 ⟨h.1,h.2.1.2,h.2.2.2⟩),if_neg (by simp)]
              simp
            | x3::t=>
              have g3:g (x0::x1::x2::x3::t) 3=x3.toNat:=rfl
              have b3:=x3.toNat_lt
              have g2:g (x0::x1::x2::x3::t) 2=x2.toNat:=rfl
              have g1:g (x0::x1::x2::x3::t) 1=x1.toNat:=rfl
              have g0:g (x0::x1::x2::x3::t) 0=x0.toNat:=rfl
              by_cases h4:x0.toNat/8=30∧x1.toNat/64=2∧x2.toNat/64=2∧x3.toNat/64=2
              · obtain⟨c,hc⟩:∃ c,x0.toNat%8*262144+x1.toNat%64*4096+x2.toNat%64*64+x3.toNat%64=c:=⟨_,rfl⟩
                by_cases h5:c≥65536∧(c<55296∨(57344≤c∧c≤1114111))
                · have e:decL (x0::x1::x2::x3::t)=(c,4):=by
                    unfold decL decodeN
                    rw[g0,g1,g2,g3,hc,if_neg h1,if_neg (fun h=>h2 ⟨h.1,h.2.2⟩),if_neg (fun h=>h3 ⟨h.1,h.2.1.2,h.2.2.2⟩),if_pos ⟨h4.1,⟨by simp,h4.2.1⟩,⟨by simp,h4.2.2.1⟩,by simp,h4.2.2.2⟩,if_pos h5]
                  have hv:vr c:=h5.2
                  rw[e]
                  refine⟨hv,?_,?_⟩
                  · simp only; rw[enc_4 hv h5.1]; rfl
                  · simp only; rw[enc_4 hv h5.1,u8_eq (x:=x0) (by omega),u8_eq (x:=x1) (by omega),u8_eq (x:=x2) (by omega),u8_eq (x:=x3) (by omega)]; exact⟨t,rfl⟩
                · exfalso
                  refine hg ?_
                  unfold decL decodeN
                  rw[g0,g1,g2,g3,hc,if_neg h1,if_neg (fun h=>h2 ⟨h.1,h.2.2⟩),if_neg (fun h=>h3 ⟨h.1,h.2.1.2,h.2.2.2⟩),if_pos ⟨h4.1,⟨by simp,h4.2.1⟩,⟨by simp,h4.2.2.1⟩,by simp,h4.2.2.2⟩,if_neg h5]
                  simp
              · exfalso
                refine hg ?_
                unfold decL decodeN
                rw[g0,g1,g2,g3,if_neg h1,if_neg (fun h=>h2 ⟨h.1,h.2.2⟩),if_neg (fun h=>h3 ⟨h.1,h.2.1.2,h.2.2.2⟩),if_neg (fun h=>h4 ⟨h.1,h.2.1.2,h.2.2.1.2,h.2.2.2.2⟩)]
                simp

def flat (rs:List Nat):List UInt8:=rs.flatMap enc
def Starts (l:List UInt8):Prop:=∃ r,vr r∧enc r <+: l
theorem enc_ne (r:Nat):enc r≠[]:=fun e=>by have:=(enc_len r).1; rw[e]at this; simp at this
theorem starts_dec {l:List UInt8}:Starts l↔l≠[]∧¬((decL l).1=65533∧(decL l).2=1):=by
  constructor
  · rintro⟨r,hv,t,rfl⟩
    refine⟨fun e=>enc_ne r (List.append_eq_nil_iff.1 e).1,?_⟩
    rw[dec_enc hv]
    intro h
    simp only at h
    obtain⟨h1,h2⟩:=h
    rw[enc_3 hv (by omega) (by omega)]at h2
    simp only[List.length_cons,List.length_nil]at h2
    omega
  · rintro⟨h0,hg⟩
    obtain⟨h1,_,h2⟩:=enc_dec h0 hg
    exact⟨_,h1,h2⟩
theorem dec_starts {l:List UInt8}{r:Nat}(hv:vr r)(h:enc r <+: l):decL l=(r,(enc r).length):=by
  obtain⟨t,rfl⟩:=h
  exact dec_enc hv t
theorem starts_unique {l:List UInt8}{r r':Nat}(hv:vr r)(hv':vr r')(h:enc r <+: l)(h':enc r' <+: l):r=r':=by
  have h1:=dec_starts hv h
  rw[dec_starts hv' h']at h1
  exact(Prod.mk.inj h1).1.symm

structure Brk (l:List UInt8) (rs:List Nat) (t:List UInt8):Prop where
  eq:l=flat rs++t
  ok:∀ r∈rs,vr r
  stop:¬Starts t
theorem flat_cons (r:Nat)(rs:List Nat):flat (r::rs)=enc r++flat rs:=by simp[flat]
theorem flat_append (rs rs':List Nat):flat (rs++rs')=flat rs++flat rs':=by simp[flat]
theorem flat_nil :flat []=[]:=rfl
theorem brk_ex :∀ (n:Nat) (l:List UInt8),l.length≤n→∃ rs t,Brk l rs t
  | 0,l,h=>by
    obtain rfl:l=[]:=List.length_eq_zero_iff.1 (by omega)
    exact⟨[],[],rfl,by simp,fun⟨r,_,h⟩=>enc_ne r (List.prefix_nil.1 h)⟩
  | n+1,l,h=>by
    by_cases hs:Starts l
    · obtain⟨r,hv,t,rfl⟩:=hs
      have:=(enc_len r).1
      rw[List.length_append]at h
      obtain⟨rs,t',hb⟩:=brk_ex n t (by omega)
      exact⟨r::rs,t',by rw[hb.eq,flat_cons,List.append_assoc,←hb.eq],by intro x hx; rcases List.mem_cons.1 hx with rfl|hx; exact hv; exact hb.ok x hx,hb.stop⟩
    · exact⟨[],l,rfl,by simp,hs⟩
theorem brk_un :∀ {rs rs':List Nat} {l t t':List UInt8},Brk l rs t→Brk l rs' t'→rs=rs'∧t=t'
  | [],[],l,t,t',h,h'=>⟨rfl,by have:=h.eq.symm.trans h'.eq; simpa [flat] using this⟩
  | [],r::rs,l,t,t',h,h'=>by
    exfalso
    refine h.stop ⟨r,h'.ok r (by simp),?_⟩
    have:=h.eq.symm.trans h'.eq
    rw[flat_nil,List.nil_append,flat_cons,List.append_assoc]at this
    rw[this]; exact List.prefix_append _ _
  | r::rs,[],l,t,t',h,h'=>by
    exfalso
    refine h'.stop ⟨r,h.ok r (by simp),?_⟩
    have:=h'.eq.symm.trans h.eq
    rw[flat_nil,List.nil_append,flat_cons,List.append_assoc]at this
    rw[this]; exact List.prefix_append _ _
  | r::rs,r'::rs',l,t,t',h,h'=>by
    have e:=h.eq.symm.trans h'.eq
    rw[flat_cons,flat_cons,List.append_assoc,List.append_assoc]at e
    have p1:enc r <+: enc r++(flat rs++t):=List.prefix_append _ _
    have p2:enc r' <+: enc r++(flat rs++t):=by rw[e]; exact List.prefix_append _ _
    obtain rfl:r=r':=starts_unique (h.ok r (by simp)) (h'.ok r' (by simp)) p1 p2
    have e:=List.append_cancel_left e
    obtain⟨rfl,rfl⟩:=brk_un (l:=flat rs++t) (rs:=rs) (t:=t) ⟨rfl,fun x hx=>h.ok x (by simp[hx]),h.stop⟩ ⟨e,fun x hx=>h'.ok x (by simp[hx]),h'.stop⟩
    exact⟨rfl,rfl⟩
theorem not_starts_nil :¬Starts []:=fun⟨r,_,h⟩=>enc_ne r (List.prefix_nil.1 h)
theorem brk_flat {rs:List Nat}(h:∀ r∈rs,vr r):Brk (flat rs) rs []:={ eq:=(List.append_nil _).symm,ok:=h,stop:=not_starts_nil }
theorem brk_step {rs:List Nat}{l t:List UInt8}{r:Nat}(h:Brk l (r::rs) t):decL l=(r,(enc r).length)∧Brk (l.drop (enc r).length) rs t:=by
  have e:=h.eq
  rw[flat_cons,List.append_assoc]at e
  refine⟨dec_starts (h.ok r (by simp)) (by rw[e]; exact List.prefix_append _ _),⟨by rw[e,List.drop_append_of_le_length (Nat.le_refl _),List.drop_length,List.nil_append],fun x hx=>h.ok x (by simp[hx]),h.stop⟩⟩
theorem flat_le :∀ (rs:List Nat),rs.length≤(flat rs).length
  | []=>Nat.le_refl _
  | r::rs=>by have:=flat_le rs; have:=(enc_len r).1; rw[flat_cons,List.length_append,List.length_cons]; omega
set_option maxRecDepth 100000
abbrev bl (s:ByteArray):List UInt8:=s.data.toList
theorem bl_size (s:ByteArray):(bl s).length=s.size:=by rw[bl,Array.length_toList]; rfl
theorem bl_drop (s:ByteArray)(k:Nat):bl (s.extract k s.size)=(bl s).drop k:=ext_list s k
theorem bl_inj {s t:ByteArray}(h:bl s=bl t):s=t:=by cases s; cases t; simp only[ByteArray.mk.injEq]; exact Array.toList_inj.1 h
noncomputable def sc (s:ByteArray):List Nat:=(brk_ex _ (bl s) (Nat.le_refl _)).choose
noncomputable def tl (s:ByteArray):List UInt8:=(brk_ex _ (bl s) (Nat.le_refl _)).choose_spec.choose
theorem brk (s:ByteArray):Brk (bl s) (sc s) (tl s):=(brk_ex _ (bl s) (Nat.le_refl _)).choose_spec.choose_spec
theorem brk_sc {s:ByteArray}{rs:List Nat}{t:List UInt8}(h:Brk (bl s) rs t):sc s=rs∧tl s=t:=brk_un (brk s) h
theorem sc_ok (s:ByteArray):∀ r∈sc s,vr r:=(brk s).ok
noncomputable def brkAt (s:ByteArray):Nat:=(flat (sc s)).length
noncomputable def utf (s:ByteArray):Prop:=tl s=[]
theorem brkAt_le (s:ByteArray):brkAt s+(tl s).length=s.size:=by
  have:=congrArg List.length (brk s).eq
  rw[bl_size,List.length_append]at this
  unfold brkAt; omega
theorem utf_iff (s:ByteArray):utf s↔brkAt s=s.size:=by
  have:=brkAt_le s
  unfold utf
  constructor
  · intro h; rw[h]at this; simpa using this
  · intro h; exact List.length_eq_zero_iff.1 (by omega)
theorem utf_flat {s:ByteArray}(h:utf s):bl s=flat (sc s):=by have:=(brk s).eq; rw[h,List.append_nil]at this; exact this
theorem utf_of {s:ByteArray}{rs:List Nat}(hr:∀ r∈rs,vr r)(h:bl s=flat rs):utf s∧sc s=rs:=by
  obtain⟨h1,h2⟩:=brk_sc (s:=s) (h▸brk_flat hr)
  exact⟨h2,h1⟩
theorem sc_le (s:ByteArray):(sc s).length≤s.size:=by
  have h1:=flat_le (sc s)
  have h2:=brkAt_le s
  unfold brkAt at h2
  omega

theorem validGo_brk :∀ (n:Nat) (l:List UInt8) (rs:List Nat) (t:List UInt8),l.length≤n→Brk l rs t→validGoD n l=decide (t=[])
  | 0,l,rs,t,hn,h=>by
    obtain rfl:l=[]:=List.length_eq_zero_iff.1 (by omega)
    have:=(List.append_eq_nil_iff.1 h.eq.symm).2
    subst this
    simp[validGoD]
  | n+1,l,rs,t,hn,h=>by
    unfold validGoD
    have hd:decodeL l=decL l:=by
      have:=decode_L ⟨l.toArray⟩ 0
      simpa [decodeL] using this
    rw[hd]
    match rs,h with
    | [],h=>
      have hl:l=t:=by simpa [flat] using h.eq
      subst hl
      by_cases h0:l=[]
      · simp[h0]
      · have:(decL l).1=65533∧(decL l).2=1:=Classical.byContradiction fun hc=>h.stop (starts_dec.2 ⟨h0,hc⟩)
        rw[if_neg h0,if_pos this,decide_eq_false h0]
    | r::rs,h=>
      have h0:Starts l:=⟨r,h.ok r (by simp),by rw[h.eq,flat_cons,List.append_assoc]; exact List.prefix_append _ _⟩
      obtain⟨h1,h2⟩:=starts_dec.1 h0
      obtain⟨h3,h4⟩:=brk_step h
      rw[if_neg h1,if_neg h2,h3]
      have:=(enc_len r).1
      have hx:(l.drop (enc r).length).length≤n:=by
        rw[List.length_drop]
        have h9:0<l.length:=List.length_pos_iff.2 h1
        generalize (enc r).length=L at this ⊢
        omega
      simp only
      exact validGo_brk n (l.drop (enc r).length) rs t hx h4
theorem valid_utf (s:ByteArray):validD (bl s)=decide (tl s=[]):=validGo_brk _ _ _ _ (Nat.le_refl _) (brk s)

theorem count_brk (s:ByteArray):∀ (f pos:Nat) (rs:List Nat),s.size-pos≤f→pos≤s.size→Brk ((bl s).drop pos) rs []→runeCountFrom s f pos=rs.length
  | f,pos,[],hf,hp,h=>by
    have e:(bl s).drop pos=[]:=by simpa [flat] using h.eq
    have:s.size≤pos:=by rw[←bl_size]; exact List.drop_eq_nil_iff.1 e
    exact runeCountFrom_end s f pos (by omega)
  | f,pos,r::rs,hf,hp,h=>by
    obtain⟨h3,h4⟩:=brk_step h
    have hl:=congrArg List.length h.eq
    rw[List.length_drop,bl_size,flat_cons]at hl
    simp only[List.length_append,List.length_nil]at hl
    have:=(enc_len r).1
    obtain⟨f,rfl⟩:∃ f',f=f'+1:=⟨f-1,by omega⟩
    unfold runeCountFrom
    rw[if_pos (by omega),decode_L,h3]
    rw[List.drop_drop]at h4
    simp only
    rw[count_brk s f (pos+(enc r).length) rs (by omega) (by omega) h4,List.length_cons]
    omega
theorem count_utf {s:ByteArray}(h:utf s):runeCount s=(sc s).length:=count_brk s _ 0 _ (by omega) (by omega) (by have:=brk s; rw[h]at this; simpa using this)

theorem foldl_bl (ns:List Nat):∀ (s:ByteArray),bl ((ns.map fun(r:Nat)=>(r:Int)).foldl (fun r n=>r++Utf8.encode n) s)=bl s++flat ns:=by
  induction ns with
  | nil=>intro s; simp[flat]
  | cons n ns ih=>
    intro s
    rw[List.map_cons,List.foldl_cons,ih,flat_cons,←List.append_assoc]
    simp[bl,enc]
theorem runesBytes_flat (ns:List Nat):bl (runesBytes (ns.map fun(r:Nat)=>(r:Int)))=flat ns:=by
  unfold runesBytes
  rw[foldl_bl]
  rfl
theorem bl_extract (s:ByteArray)(i j:Nat):bl (s.extract i j)=((bl s).drop i).take (j-i):=by
  unfold bl
  rw[extract_data]
theorem decodeGo_eq (s:ByteArray):Lib.decodeGo s=if s.size=0 then (65533,0)else decL (bl s):=by
  show Lib.decodeGoB s=_
  unfold decodeGoB
  rw[decode_L]
  simp
def headP :List Nat→Nat×Nat
  | []=>(0,0)
  | r::_=>(r,(enc r).length)
theorem nextP_brk {s:ByteArray}{rs:List Nat}{t:List UInt8}(h:Brk (bl s) rs t):nextP s=headP rs:=by
  unfold nextP
  rw[decodeGo_eq]
  match rs,h with
  | [],h=>
    have e:bl s=t:=by simpa [flat] using h.eq
    by_cases h0:s.size=0
    · simp[h0,headP]
    · rw[if_neg h0]
      have hne:bl s≠[]:=fun e0=>h0 (by rw[←bl_size,e0]; rfl)
      have:(decL (bl s)).1=65533∧(decL (bl s)).2=1:=Classical.byContradiction fun hc=>h.stop (by rw[←e]; exact starts_dec.2 ⟨hne,hc⟩)
      rw[if_pos ⟨this.1,by omega⟩]; rfl
  | r::rs,h=>
    obtain⟨h3,h4⟩:=brk_step h
    have hst:Starts (bl s):=⟨r,h.ok r (by simp),by rw[h.eq,flat_cons,List.append_assoc]; exact List.prefix_append _ _⟩
    obtain⟨h1,h2⟩:=starts_dec.1 hst
    have h0:¬s.size=0:=fun e0=>h1 (List.length_eq_zero_iff.1 (by rw[bl_size]; exact e0))
    rw[if_neg h0,h3]
    rw[if_neg]
    · rfl
    · rintro⟨e1,e2⟩
      simp only at e1 e2
      rw[h3]at h2
      simp only at h2
      have:=(enc_len r).1
      exact h2 ⟨e1,by omega⟩
theorem uloop_brk (s:ByteArray):∀ (rs:List Nat) (t:List UInt8) (k f:Nat),Brk ((bl s).drop k) rs t→k≤s.size→s.size-k≤f→uloop s f k=(s.size-t.length,decide (t=[]))
  | [],t,k,f,h,hk,hf=>by
    have e:(bl s).drop k=t:=by simpa [flat] using h.eq
    have hl:t.length=s.size-k:=by rw[←e,List.length_drop,bl_size]
    by_cases hlt:k<s.size
    · obtain⟨f,rfl⟩:∃ f',f=f'+1:=⟨f-1,by omega⟩
      have hn:=nextP_brk (s:=s.extract k s.size) (rs:=[]) (t:=t) (by rw[bl_drop]; exact h)
      simp only[uloop]
      rw[if_pos hlt,hn]
      have:¬t=[]:=fun e0=>by rw[e0]at hl; simp at hl; omega
      simp only[headP,if_true,decide_eq_false this,Prod.mk.injEq,and_true]
      omega
    · have:t=[]:=List.length_eq_zero_iff.1 (by omega)
      subst this
      cases f with
      | zero=>simp only[uloop]; simp; omega
      | succ f=>simp only[uloop]; rw[if_neg hlt]; simp; omega
  | r::rs,t,k,f,h,hk,hf=>by
    obtain⟨h3,h4⟩:=brk_step h
    have hl:=congrArg List.length h.eq
    rw[List.length_drop,bl_size,flat_cons]at hl
    simp only[List.length_append]at hl
    have:=(enc_len r).1
    obtain⟨f,rfl⟩:∃ f',f=f'+1:=⟨f-1,by omega⟩
    have hn:=nextP_brk (s:=s.extract k s.size) (rs:=r::rs) (t:=t) (by rw[bl_drop]; exact h)
    rw[List.drop_drop]at h4
    have h8:headP (r::rs)=(r,(enc r).length):=rfl
    rw[h8]at hn
    generalize (enc r).length=L at*
    simp only[uloop]
    rw[if_pos (by omega),hn]
    simp only
    rw[if_neg (by omega)]
    exact uloop_brk s rs t _ f h4 (by omega) (by omega)
theorem uchk_eq (s:ByteArray):uchk s=(brkAt s,decide (tl s=[])):=by
  have h:=uloop_brk s (sc s) (tl s) 0 s.size (by simpa using brk s) (by omega) (by omega)
  have:=brkAt_le s
  unfold uchk
  rw[h]
  simp only[Prod.mk.injEq,and_true]
  omega

noncomputable def lenP (s:ByteArray):Nat×Nat:=if tl s=[]then ((sc s).length,0)else (0,1)
def vz (r:Int):Prop:=0≤r∧vr r.toNat
instance (r:Int):Decidable (vz r):=by unfold vz; exact inferInstance
theorem vz_map {l:List Int}(h:∀ r∈l,vz r):∃ rs:List Nat,l=rs.map (fun(r:Nat)=>(r:Int))∧∀ r∈rs,vr r:=by
  refine⟨l.map Int.toNat,?_,?_⟩
  · rw[List.map_map]
    conv=>lhs; rw[←List.map_id l]
    refine List.map_congr_left fun r hr=>?_
    have:=(h r hr).1
    simp; omega
  · intro r hr
    obtain⟨x,hx,rfl⟩:=List.mem_map.1 hr
    exact(h x hx).2
theorem text_utf {l:List Int}(h:∀ r∈l,vz r):utf (runesBytes l)∧(sc (runesBytes l)).map (fun(r:Nat)=>(r:Int))=l:=by
  obtain⟨rs,rfl,hr⟩:=vz_map h
  obtain⟨h1,h2⟩:=utf_of (s:=runesBytes (rs.map fun(r:Nat)=>(r:Int))) hr (runesBytes_flat rs)
  exact⟨h1,by rw[h2]⟩
end Go.Proofs.YtlnnjfdonilgmaaGreatDoor.U
