import Derived.Test.YtgphmfnkeolbcaaGreatDoorCls
import Derived.Test.YtgphmfnkeolbcaaGreatDoorMixP
/- vellumref06.Canonical by its loop: gaps of inserts, deletes counted. No condition. -/
set_option linter.unusedVariables false
set_option linter.unusedSimpArgs false
set_option maxRecDepth 100000
namespace Go.Proofs.YtgphmfnkeolbcaaGreatDoor
open Go Go.RowKit Go.Proofs.YtgphmfnkeolbcaaGreatDoorW.PrintWords RX
namespace B
def Gap (ys out gap:List OpA)(g:Int):Prop:=gap.foldl push out=(run ys).1∧g=(run ys).2
theorem gap_nil :Gap [] [] [] 0:=⟨rfl,rfl⟩
theorem gap_ins {ys out gap:List OpA}{g:Int}{o:OpA}(h:Gap ys out gap g)(hk:o.kind=1∨o.kind=2):Gap (ys++[o]) out (gap++[o]) g:=by
  obtain⟨h1,h2⟩:=h
  refine⟨?_,?_⟩
  · rw[List.foldl_append,h1,run_snoc]
    unfold step
    rw[if_neg (by omega),if_neg (by omega)]; rfl
  · rw[run_snoc,h2]
    unfold step
    rw[if_neg (by omega),if_neg (by omega)]
theorem gap_del {ys out gap:List OpA}{g:Int}{o:OpA}(h:Gap ys out gap g)(hk:o.kind=4):Gap (ys++[o]) out gap (g+o.count):=by
  obtain⟨h1,h2⟩:=h
  refine⟨?_,?_⟩
  · rw[run_snoc,h1]
    unfold step
    rw[if_pos hk]
  · rw[run_snoc,h2]
    unfold step
    rw[if_pos hk]
theorem gap_flush {ys P:List OpA}{g:Int}(hi:Inv ys (P,g)):(if g>0 then push P (gone g)else P)=dels P g:=by
  have g0:0≤g:=hi.g0
  have hl:P.length=0∨(lst P).kind≠4:=hi.last
  unfold dels
  by_cases h:g=0
  · rw[if_pos h,if_neg (by omega)]
  · rw[if_neg h,if_pos (by omega)]
    exact push_far (hl.imp_right fun h hm=>h hm.1)
theorem gap_ret {ys out gap:List OpA}{g:Int}{o:OpA}(h:Gap ys out gap g)(hk:o.kind=3):Gap (ys++[o]) (push (dels (gap.foldl push out) g) o) [] 0:=by
  obtain⟨h1,h2⟩:=h
  refine⟨?_,?_⟩
  · show push _ o=_
    rw[h1,h2,run_snoc]
    unfold step
    rw[if_neg (by omega),if_pos hk]
  · rw[run_snoc]
    unfold step
    rw[if_neg (by omega),if_pos hk]
theorem gap_end {xs out gap:List OpA}{g:Int}(h:Gap xs out gap g):fin (dels (gap.foldl push out) g)=can xs:=by
  obtain⟨h1,h2⟩:=h
  rw[h1,h2]; rfl
structure Ok (out:List OpA):Prop where
  g:badE out=0
  c:Chain out
  l:out.length=0∨(lst out).kind≠4
  b:sB out≤L
  f:∀ o∈out,fine o
theorem ok_nil :Ok []:=⟨rfl,chain_nil,.inl rfl,by decide,fun o h=>by cases h⟩
theorem ok_push {out:List OpA}{o:OpA}(h:Ok out)(ho:pErr o=0)(hf:fine o)(hk:o.kind≠4)(hL:sB out+opB o≤L):Ok (push out o)∧sB (push out o)=sB out+opB o∧txS (push out o)≤txS out+o.text.size∧(push out o).length≤out.length+1:=by
  obtain⟨p1,p2,p3,p4,p5,p6⟩:=push_ok h.g h.c ho hk (h.l.imp_right .inl) hL
  obtain⟨f1,f2⟩:=push_sz h.f hf
  exact⟨⟨p1,p2,.inr (by rw[p4]; exact hk),by rw[p5]; exact hL,f1⟩,p5,f2,push_len out o⟩
theorem cnt_ok {o:OpA}(h:pErr o=0):0≤o.count∧o.count≤1099511627776:=by
  rcases kind_of_ok h with k|k|k|k
  · have:=(ok_ins h k).1; omega
  · have h1:=has_ok h
    unfold hasP at h1
    rw[if_neg (by omega),if_pos k,decide_eq_true_eq]at h1
    omega
  · have:=count_of_ok h (.inl k); omega
  · have:=count_of_ok h (.inr k); omega
theorem last_ok {out:List OpA}(h:badE out=0):0≤(out.getD ((out.length:Int)-1).toNat op0).count∧(out.getD ((out.length:Int)-1).toNat op0).count≤1099511627776∧(out.getD ((out.length:Int)-1).toNat op0).text.size≤txS out:=by
  by_cases h0:out.length=0
  · rw[List.eq_nil_of_length_eq_zero h0]
    exact⟨Int.le_refl _,by decide,Nat.zero_le _⟩
  · have hi:((out.length:Int)-1).toNat<out.length:=by omega
    obtain⟨h1,h2⟩:=cnt_ok (badE_getD h hi)
    exact⟨h1,h2,txS_mem (getD_mem op0 hi)⟩
theorem push_pre {out:List OpA}{o:OpA}(h:badE out=0)(ho:pErr o=0)(ht:txS out+o.text.size≤50000000):(out.getD ((out.length:Int)-1).toNat op0).text.size+o.text.size≤9223372036854775807∧(-9223372036854775808≤(out.getD ((out.length:Int)-1).toNat op0).count+o.count∧(out.getD ((out.length:Int)-1).toNat op0).count+o.count≤9223372036854775807):=by
  obtain⟨h1,h2,h3⟩:=last_ok h
  obtain⟨h4,h5⟩:=cnt_ok ho
  exact⟨by omega,by omega,by omega⟩
structure CS (xs out gap:List OpA) (g:Int) (i:Nat):Prop where
  i1:i≤xs.length
  gp:Gap (xs.take i) out gap g
  ok:Ok out
  gi:∀ o∈gap,pErr o=0∧(o.kind=1∨o.kind=2)∧fine o
  tx:txS out+txS gap≤txS (xs.take i)
  ln:out.length+gap.length≤3*i
  g0:0≤g
  sb:sB out+g=sB (xs.take i)
theorem cs_nil (xs:List OpA):CS xs [] [] 0 0:=⟨Nat.zero_le _,gap_nil,ok_nil,fun o h=>(by cases h),Nat.zero_le _,Nat.zero_le _,Int.le_refl _,rfl⟩
section
variable {xs out gap : List OpA} {g : Int} {i : Nat}
theorem tx_take (hi:i<xs.length):txS (xs.take (i+1))=txS (xs.take i)+(xs.getD i op0).text.size:=by rw[take_snocD op0 xs i hi,txS_snoc]
theorem cs_ins (h:CS xs out gap g i)(hi:i<xs.length)(hb:badE xs=0)(hf:∀ o∈xs,fine o)(hk:(xs.getD i op0).kind=1∨(xs.getD i op0).kind=2):CS xs out (gap++[xs.getD i op0]) g (i+1):=by
  refine⟨hi,by rw[take_snocD op0 xs i hi]; exact gap_ins h.gp hk,h.ok,fun o ho=>?_,?_,?_,h.g0,?_⟩
  · rcases List.mem_append.1 ho with ho|ho
    · exact h.gi o ho
    · rw[List.mem_singleton.1 ho]
      exact⟨badE_getD hb hi,hk,hf _ (getD_mem op0 hi)⟩
  · have:=h.tx; rw[tx_take hi,txS_snoc]; omega
  · have:=h.ln; rw[List.length_append,List.length_singleton]; omega
  · rw[sB_take hi,opB_ins hk,h.sb,Int.add_zero]
theorem cs_del (h:CS xs out gap g i)(hi:i<xs.length)(hb:badE xs=0)(hk:(xs.getD i op0).kind=4):CS xs out gap (g+(xs.getD i op0).count) (i+1):=by
  have hc:=count_of_ok (badE_getD hb hi) (.inr hk)
  have hg:=h.g0
  refine⟨hi,by rw[take_snocD op0 xs i hi]; exact gap_del h.gp hk,h.ok,h.gi,?_,?_,by omega,?_⟩
  · have:=h.tx; rw[tx_take hi]; omega
  · have:=h.ln; omega
  · have:=h.sb; rw[sB_take hi,opB_cnt (.inr hk)]; omega
structure FS (out gap P:List OpA) (j:Nat):Prop where
  e:P=(gap.take j).foldl push out
  ok:Ok P
  sb:sB P=sB out
  tx:txS P≤txS out+txS (gap.take j)
  ln:P.length≤out.length+j
theorem fs_nil (h:CS xs out gap g i):FS out gap out 0:=⟨rfl,h.ok,rfl,Nat.le_add_right _ _,Nat.le_refl _⟩
theorem fs_step {P:List OpA}{j:Nat}(h:CS xs out gap g i)(hf:FS out gap P j)(hj:j<gap.length):FS out gap (push P (gap.getD j op0)) (j+1):=by
  obtain⟨g1,g2,g3⟩:=h.gi _ (getD_mem op0 hj)
  have hs:=hf.sb
  have hb:=h.ok.b
  obtain⟨k1,k2,k3,k4⟩:=ok_push hf.ok g1 g3 (by omega) (by rw[opB_ins g2]; omega)
  have ht:=hf.tx
  have hl:=hf.ln
  refine⟨?_,k1,?_,?_,by omega⟩
  · rw[take_snocD op0 gap j hj,List.foldl_append,←hf.e]; rfl
  · rw[k2,opB_ins g2]; omega
  · rw[take_snocD op0 gap j hj,txS_snoc]; omega
theorem fs_all {P:List OpA}{j:Nat}(hf:FS out gap P j)(hj:j=gap.length):P=gap.foldl push out:=by rw[hf.e,hj,List.take_length]
theorem take_ok (hb:badE xs=0)(hL:sB xs≤L)(hi:i≤xs.length):Inv (xs.take i) (run (xs.take i))∧sB (xs.take i)≤L:=by
  have h1:badE (xs.take i)=0:=badE_mem.2 fun o ho=>badE_mem.1 hb o (List.mem_of_mem_take ho)
  have h2:=(sum_take_le hb i).1
  exact⟨run_ok _ h1 (by omega),by omega⟩
theorem cs_flush (h:CS xs out gap g i)(hb:badE xs=0)(hL:sB xs≤L):(if g>0 then push (gap.foldl push out) (gone g)else gap.foldl push out)=dels (gap.foldl push out) g∧badE (dels (gap.foldl push out) g)=0∧(0<g→pErr (gone g)=0):=by
  obtain⟨h1,h2⟩:=take_ok hb hL h.i1
  obtain⟨g1,g2⟩:=h.gp
  have hr:run (xs.take i)=(gap.foldl push out,g):=by rw[g1,g2]
  rw[hr]at h1
  have h3:=sB_ok h1.good
  have h4:=h1.sb
  have h4:sB (gap.foldl push out)+g=sB (xs.take i):=h4
  have h3:0≤sB (gap.foldl push out)∧True:=⟨(show 0≤sB (gap.foldl push out)from by first|exact h3|exact h3.1),trivial⟩
  obtain⟨d1,_,_,_⟩:=dels_ok h1.good h1.chain h1.last h1.g0 (show sB (gap.foldl push out)+g≤L by omega)
  exact⟨gap_flush h1,d1,fun h0=>ok_gone (by omega) (by omega)⟩
theorem cs_ret (h:CS xs out gap g i)(hi:i<xs.length)(hb:badE xs=0)(hL:sB xs≤L)(hf:∀ o∈xs,fine o)(hk:(xs.getD i op0).kind=3)(hln:(push (dels (gap.foldl push out) g) (xs.getD i op0)).length≤3*(i+1)):CS xs (push (dels (gap.foldl push out) g) (xs.getD i op0)) [] 0 (i+1):=by
  have hg:Gap (xs.take (i+1)) (push (dels (gap.foldl push out) g) (xs.getD i op0)) [] 0:=by rw[take_snocD op0 xs i hi]; exact gap_ret h.gp hk
  obtain⟨h1,h2⟩:=take_ok hb hL (show i+1≤xs.length by omega)
  have hr:run (xs.take (i+1))=(push (dels (gap.foldl push out) g) (xs.getD i op0),0):=by
    obtain⟨a,b⟩:=hg
    have a:push (dels (gap.foldl push out) g) (xs.getD i op0)=(run (xs.take (i+1))).1:=a
    rw[a,b]
  obtain⟨s1,s2⟩:=run_sz (xs.take (i+1)) fun o ho=>hf o (List.mem_of_mem_take ho)
  rw[hr]at h1 s1 s2
  have hsb:sB (push (dels (gap.foldl push out) g) (xs.getD i op0))+0=sB (xs.take (i+1)):=h1.sb
  exact⟨hi,hg,⟨h1.good,h1.chain,h1.last,by omega,s1⟩,fun o ho=>(by cases ho),(by show _+0≤_; exact s2),(by show _+0≤_; exact hln),Int.le_refl _,hsb⟩
theorem cs_end (h:CS xs out gap g i)(hi:i=xs.length):fin (dels (gap.foldl push out) g)=can xs:=by
  have:=h.gp
  rw[hi,List.take_length]at this
  exact gap_end this
end
end B
namespace RX
theorem MixK.off {α:Type}{d:Kd α}{z:α}{e B:Nat}{W0 w w1:World}{A:Option Addr}{n c:Nat}{xs:List α}{r:Option Nat}(h:MixK d z e B W0 w A n c xs)(k:w.grownBy w1 r)(hne:∀ x,r=some x→A.map (·.block)≠some x):MixK d z e B W0 w1 A n c xs:=by
  obtain⟨vs,hR,hl,hK⟩:=h
  exact⟨vs,Kd.R_flat rfl hR k hne,hl,hK⟩
theorem MixK.ge {α:Type}{d:Kd α}{z:α}{e B:Nat}{W0 w:World}{A:Option Addr}{n c:Nat}{xs:List α}(h:MixK d z e B W0 w A n c xs):∀ k,A.map (·.block)=some k→B≤k:=by
  obtain⟨vs,hR,_⟩:=h
  exact Kd.R_ge hR
def Apt (A A':Option Addr):Prop:=∀ x,A.map (·.block)=some x→A'.map (·.block)≠some x
theorem Apt.none (A':Option Addr):Apt .none A':=fun x h=>by cases h
theorem Apt.symm {A A':Option Addr}(h:Apt A A'):Apt A' A:=fun x h1 h2=>h x h2 h1
theorem Apt.grow {A A1 A':Option Addr}{w:World}(h:Apt A A')(hat:A1.map (·.block)=A.map (·.block)∨∃ b,A1.map (·.block)=some b∧w.heap.size≤b)(hl:∀ k,A'.map (·.block)=some k→k<w.heap.size):Apt A1 A':=by
  intro x h1 h2
  rcases hat with h3|⟨b,h3,h4⟩
  · exact h x (by rw[←h3]; exact h1) h2
  · rw[h3]at h1
    injection h1 with h1
    have:=hl x h2
    omega
end RX
end Go.Proofs.YtgphmfnkeolbcaaGreatDoor
