import Derived.Test.YtgphmfnkeolbcaaGreatDoorRow
import Derived.Test.YtgphmfnkeolbcaaGreatDoorOp2
import Derived.Test.YtgphmfnkeolbcaaGreatDoorP1
import Derived.Test.YtgphmfnkeolbcaaGreatDoorT66
/- Rows of the call's own whose elements' memory lies elsewhere, unchanged since a world W0. No condition. -/
set_option linter.unusedVariables false
set_option maxRecDepth 100000
namespace Go.Proofs.YtgphmfnkeolbcaaGreatDoor.RX
open Go Go.RowKit Go.Proofs.YtgphmfnkeolbcaaGreatDoor Go.Proofs.YtgphmfnkeolbcaaGreatDoorW.PrintWords
def MixK {α:Type}(d:Kd α)(z:α)(e B:Nat)(W0 w:World)(A:Option Addr)(n c:Nat)(xs:List α):Prop:=
  ∃ vs,(kRaw d.sz).R e w B (OkFrom B) (.slice A n c) vs∧vs.length=xs.length∧∀ i,i<xs.length→d.K W0 (xs.getD i z) (vs.getD i [])
section
variable {α : Type} {d : Kd α} {z : α} {e B : Nat} {W0 W w w1 : World} {A A' : Option Addr} {n c m c' : Nat} {xs ys : List α}
theorem MixK.nil {b2:Nat}(h:d.R e w b2 (OkFrom b2) (.slice A n c) [])(hb:B≤b2):MixK d z e B W0 w A n c []:=by
  obtain⟨vs,h1,h2,_⟩:=Kd.R_raw2 z h
  exact⟨vs,Kd.R_low h1 hb,h2,fun i hi=>absurd hi (Nat.not_lt_zero _)⟩
theorem MixK.len (h:MixK d z e B W0 w A n c xs):n=xs.length∧n≤c:=by
  obtain⟨vs,hR,hl,_⟩:=h
  obtain⟨h1,h2⟩:=Kd.R_len hR
  exact⟨by omega,h2⟩
theorem MixK.below (h:MixK d z e B W0 w A n c xs)(hb:Below w.heap.size w w1):MixK d z e B W0 w1 A n c xs:=by
  obtain⟨vs,hR,hl,hK⟩:=h
  exact⟨vs,Kd.R_below hR hb,hl,hK⟩
theorem MixK.C (h:MixK d z e B W0 w A n c xs)(hB:Below W0.heap.size W0 w):d.C w A n xs:=by
  obtain⟨h1,h2⟩:=h.len
  obtain⟨vs,hR,hl,hK⟩:=h
  exact Kd.C_ofRaw z (Kd.R_C hR) h1.symm fun i hi=>d.K_below hB (hK i (by omega))
theorem MixK.at (h:MixK d z e B W0 w A n c xs){i:Int}(h0:0≤i)(h1:i<n):∃ ad cs,A=some ad∧CellsAt w (ad.add (i.toNat*d.sz)) cs∧d.K W0 (xs.getD i.toNat z) cs:=by
  obtain⟨hl1,_⟩:=h.len
  obtain⟨vs,hR,hl,hK⟩:=h
  obtain⟨ad,cs,e1,hM,hc⟩:=Kd.R_at [] hR h0 h1
  obtain⟨rfl,_⟩:=(kRaw d.sz).K_of_M hM
  exact⟨ad,_,e1,hc,hK _ (by omega)⟩
theorem C_atK (h:d.C W0 A n xs)(hB:Below W0.heap.size W0 w){i:Int}(h0:0≤i)(h1:i<n):∃ ad cs,A=some ad∧CellsAt w (ad.add (i.toNat*d.sz)) cs∧d.K W0 (xs.getD i.toNat z) cs:=by
  obtain⟨ad,cs,e1,hK,hc⟩:=Kd.atC h z h0 h1
  exact⟨ad,cs,e1,cells_below hc hB,hK⟩
theorem XL_appendMixK {P:Program}{N:Nat}{ops:Array Oper}{qs:QS}{rest:List Oper}{o:Oper}{l:Slots}{s x:Operand}{t:TypeId}(z:α)(ho:o.op=.call { callee:=.builtin .append,args:=#[s,x],argTypes:=#[t,t] })(hg:gd ops l o=some true)(hd:okD N o.dst=true)(e:Nat)(zv:Value)(bytes:Nat)
    (ht:P.underlying t=some (.slice e)) (hinfo:(P.info? e).map (fun i=>(i.zero,i.size,i.bytes))=some (some zv,d.sz,bytes)) (hz:zv.cells.size=d.sz) (hs0:0<d.sz) (hb0:0<bytes)
    (xs ys:List α) (vs2:List (List Value)) (hv:evs l [s,x]=some [.slice A n c,.slice A' m c'])
    (HO:MixK d z e B W0 W A n c xs) (HC:(kRaw d.sz).C W A' m vs2) (hm:ys.length=m) (hK:∀ i,i<m→d.K W0 (ys.getD i z) (vs2.getD i [])) (hbase:B≤W.heap.size) (hl:(xs.length+m)*bytes≤140737488355328)
    (hn:∀ A1 c1 w1,MixK d z e B W0 w1 A1 (xs++ys).length c1 (xs++ys)→W.grownBy w1 (A.map (·.block))→(∀ k,A.map (·.block)=some k→B≤k)→XL P N ops rest qs (putS l o.dst (.slice A1 (xs++ys).length c1)) w1):XL P N ops (o::rest) qs l W:=by
  obtain⟨vs,hR,hlv,hE⟩:=HO
  have hlen2:vs2.length=m:=HC.1
  refine XL_appendAll (kRaw d.sz) ho hg hd B e zv bytes ht hinfo hz hs0 hb0 vs vs2 hv hR HC (fun _ _ h=>h) hbase (by rw[hlv]; exact hl) ?_
  intro A1 c1 w1 hr hc hgr hle hat
  have hlen:(vs++vs2).length=(xs++ys).length:=by simp[hlv,hlen2,hm]
  rw[hlen]at hr ⊢
  refine hn A1 c1 w1 ⟨vs++vs2,hr,hlen,fun i hi=>?_⟩ hgr hle
  rw[List.getD_eq_getElem?_getD,List.getD_eq_getElem?_getD]
  by_cases hx:i<xs.length
  · rw[List.getElem?_append_left hx,List.getElem?_append_left (by omega),←List.getD_eq_getElem?_getD,←List.getD_eq_getElem?_getD]
    exact hE i hx
  · rw[List.getElem?_append_right (by omega),List.getElem?_append_right (by omega),hlv,←List.getD_eq_getElem?_getD,←List.getD_eq_getElem?_getD]
    rw[List.length_append]at hi
    exact hK _ (by omega)
end
theorem MixK.low {α:Type}{d:Kd α}{z:α}{e B B2:Nat}{W0 w:World}{A:Option Addr}{n c:Nat}{xs:List α}(h:MixK d z e B2 W0 w A n c xs)(hb:B≤B2):MixK d z e B W0 w A n c xs:=by
  obtain⟨vs,hR,h2,h3⟩:=h
  exact⟨vs,Kd.R_low hR hb,h2,h3⟩
theorem MixK.lt {α:Type}{d:Kd α}{z:α}{e B:Nat}{W0 w:World}{A:Option Addr}{n c:Nat}{xs:List α}(h:MixK d z e B W0 w A n c xs):∀ k,A.map (·.block)=some k→k<w.heap.size:=by
  obtain⟨vs,hR,_⟩:=h
  exact Kd.R_lt hR
theorem Blk.off {w w1:World}{g:Nat}{t:TypeId}{cs:Array Value}{r:Option Nat}(h:Blk w g t cs)(k:w.grownBy w1 r)(hn:∀ x,r=some x→x≠g):Blk w1 g t cs:=(k.block g h.lt (fun e=>hn g e.symm rfl)).trans h
theorem rawL1 {n:Nat}{w:World}{base:Nat}{ok:Nat→Prop}(cs:List Value)(hl:cs.length=n)(h1:(cs.all fun u=>u.oneCell')=true):Reps ((kRaw n).M w base ok) n [cs] cs:=by
  have:=(Reps.none ((kRaw n).M w base ok) n).snoc (p:=cs) (c:=cs) ⟨rfl,hl,fun u hu=>List.all_eq_true.1 h1 u hu⟩ hl
  simpa using this
theorem MixK.op {e B:Nat}{W0 w:World}{A:Option Addr}{n c:Nat}{xs:List OpA}(h:MixK kOp op0 e B W0 w A n c xs){i:Int}(h0:0≤i)(h1:i<n):∃ ad B c,A=some ad∧CellsAt w (ad.add (i.toNat*7)) (opV (xs.getD i.toNat op0) B c)∧(xs.getD i.toNat op0).attrs.length≤c∧kAttr.C W0 B (xs.getD i.toNat op0).attrs.length (xs.getD i.toNat op0).attrs:=by
  obtain⟨ad,cs,e1,hc,hK⟩:=h.at h0 h1
  obtain⟨B,c,rfl,hl,hC⟩:=kOp_K hK
  exact⟨ad,B,c,e1,hc,hl,hC⟩
theorem C_opK {W0 w:World}{A:Option Addr}{n:Nat}{xs:List OpA}(h:kOp.C W0 A n xs)(hB:Below W0.heap.size W0 w){i:Int}(h0:0≤i)(h1:i<n):∃ ad B c,A=some ad∧CellsAt w (ad.add (i.toNat*7)) (opV (xs.getD i.toNat op0) B c)∧(xs.getD i.toNat op0).attrs.length≤c∧kAttr.C W0 B (xs.getD i.toNat op0).attrs.length (xs.getD i.toNat op0).attrs:=by
  obtain⟨ad,cs,e1,hc,hK⟩:=C_atK (z:=op0) h hB h0 h1
  obtain⟨B,c,rfl,hl,hC⟩:=kOp_K hK
  exact⟨ad,B,c,e1,hc,hl,hC⟩
end Go.Proofs.YtgphmfnkeolbcaaGreatDoor.RX
set_option linter.unusedVariables false
set_option linter.unusedSimpArgs false
namespace Go.Proofs.YtgphmfnkeolbcaaGreatDoor.RX
open Go Go.RowKit Go.Proofs.YtgphmfnkeolbcaaGreatDoorW.PrintWords
theorem MixK.blk_ne {α:Type}{d:Kd α}{z:α}{e B g t:Nat}{W0 w:World}{A:Option Addr}{n c:Nat}{xs:List α}{cs:Array Value}(h:MixK d z e B W0 w A n c xs)(hb:Blk w g t cs)(hne:Nat.beq t e=false):∀ k,A.map (·.block)=some k→k≠g:=by
  obtain⟨vs,hR,_⟩:=h
  exact Kd.R_blk_ne hR hb hne
end Go.Proofs.YtgphmfnkeolbcaaGreatDoor.RX
set_option linter.unusedVariables false
set_option linter.unusedSimpArgs false
set_option maxRecDepth 100000
namespace Go.Proofs.YtgphmfnkeolbcaaGreatDoor
open Go Go.RowKit Go.Proofs.YtgphmfnkeolbcaaGreatDoorW.PrintWords RX
theorem ent168 :Ent Tryz.prog 168:=ent_of Tryz.func168 (by kernel_rfl) rfl
theorem ent167 :Ent Tryz.prog 167:=ent_of Tryz.func167 (by kernel_rfl) rfl
theorem ent169 :Ent Tryz.prog 169:=ent_of Tryz.func169 (by kernel_rfl) rfl
theorem ent112 :Ent Tryz.prog 112:=ent_of Tryz.func112 (by kernel_rfl) rfl
theorem lnFind_app (p:Int):∀ ls:List LineA,lnFind p (ls++[⟨p,0,[],ByteArray.empty⟩])=lnFind p ls
 | []=>if_pos (by show p≤p+0; omega)
 | l::r=>by
  show (if p≤l.from_+l.len then 0 else lnFind p (r++[_])+1)=if p≤l.from_+l.len then 0 else lnFind p r+1
  rw[lnFind_app p r]
theorem getD_app {ls:List LineA}{l:LineA}{j:Nat}(h:j<(ls++[l]).length):(j<ls.length∧(ls++[l]).getD j line0=ls.getD j line0)∨(j=ls.length∧(ls++[l]).getD j line0=l):=by
 rw[List.length_append,List.length_singleton]at h
 by_cases hj:j<ls.length
 ·exact .inl ⟨hj,by rw[List.getD_eq_getElem?_getD,List.getElem?_append_left hj,←List.getD_eq_getElem?_getD]⟩
 obtain rfl:j=ls.length:=by omega
 exact .inr ⟨rfl,by rw[List.getD_eq_getElem?_getD,List.getElem?_append_right (Nat.le_refl _),Nat.sub_self]; rfl⟩
theorem lclone_any (A:Option Addr)(c:Nat)(ls:List LineA)(w:World)(hC:kLine.C w A ls.length ls)(hn:ls.length≤1000000000):Calls Tryz.prog 168 #[.slice A ls.length c] w fun e w'=>∃ A' c',e=.returned (.slice A' ls.length c')∧MixK kLine line0 78 w.heap.size w w' A' ls.length c' ls∧Below w.heap.size w w':=by
 refine en Tryz.func168 rfl 8 [(0,aL A ls c)] (fun R_ hR_=>?_)
 refine sg (xe0 1 [(0,aL A ls c)] ?_)
 refine nl (sq (sg (xr0 1 [(3,aL A ls c)] [] ?_)))
 by_cases c1:A=none
 ·refine xr 1 [(4,.as bT)] [(4,bT)] [3] [RunsAs Tryz.prog [(3,aL A ls c)] (Go.Op.binOp Go.BinOp.eql 66 (Go.Operand.tmp 3) (Go.Operand.const (Go.Value.slice none 0 0)) 66) 4 bT w] ⟨runs_bin rfl rfl rfl (by have h_:=Lib.run_eql_slice_nil (P:=Tryz.prog) w 66 78 A ls.length c 0 0 Tryz.underlying66; rw[show A.isNone=true from by rw[c1]; rfl]at h_; exact h_),trivial⟩ ?_
  refine nl (ct (sg (xe0 1 [(2,.slice none 0 0)] ?_)))
  refine nl (X_ret (rj [.slice none 0 0] hR_ ?_))
  subst c1
  have h0_:ls=[]:=by by_cases hh:0<ls.length; (· obtain⟨ad_,_,hA_,_⟩:=Kd.atC hC line0 (i:=0) (by omega) (by omega); cases hA_); (· exact List.eq_nil_of_length_eq_zero (by omega))
  subst h0_
  exact⟨none,0,rfl,MixK.nil (Kd.R_nil _ _ _ w.heap.size (OkFrom w.heap.size)) (Nat.le_refl _),(Below.refl _ _)⟩
 refine xr 1 [(4,.as bF)] [(4,bF)] [3] [RunsAs Tryz.prog [(3,aL A ls c)] (Go.Op.binOp Go.BinOp.eql 66 (Go.Operand.tmp 3) (Go.Operand.const (Go.Value.slice none 0 0)) 66) 4 bF w] ⟨runs_bin rfl rfl rfl (by have h_:=Lib.run_eql_slice_nil (P:=Tryz.prog) w 66 78 A ls.length c 0 0 Tryz.underlying66; rw[show A.isNone=false from by cases hA_:A with|none=>exact absurd hA_ c1|some _=>rfl]at h_; exact h_),trivial⟩ ?_
 refine nl (cf (sk (sg (xw 1 [] [(5,.slice (some ⟨w.heap.size,0,none⟩) 0 0)] [4] (w.alloc (.cells #[] 78)) [] trivial ?_))))
 obtain⟨w2,hw6,b3,k4,z5⟩:=new_world w #[] 78
 rw[hw6]
 refine xr0 1 [(6,aL A ls c)] [0] ?_
 have r7:=Kd.R_litB kLine (W:=w) (e:=78) (cs:=#[]) [] k4 (repsLine0) (Nat.le_of_ble_eq_true (by kernel_rfl))
 obtain⟨vs8,C9,K10⟩:=Kd.C_raw (d:=kLine) line0 hC
 refine XL_appendMixK (d:=kLine) (W0:=w) (B:=w.heap.size) (c':=c) (m:=ls.length) line0 rfl rfl rfl 78 (.agg #[i6 0,i6 0,.slice none 0 0,s0]) 56 Tryz.underlying66 info78 rfl (by decide) (by omega) [] ls vs8 (by kernel_rfl) (MixK.nil (z:=line0) (B:=w.heap.size) (W0:=w) r7 (Nat.le_refl _)) (Kd.C_below C9 b3) rfl K10 (b3).size (by simp only[List.length_nil]; omega) ?_
 intro A11 c12 w13 m14 g15 l16
 rw[List.nil_append]at m14 ⊢
 refine xe0 1 [(2,aL A11 ls c12)] ?_
 refine nl (X_ret (rj [aL A11 ls c12] hR_ ?_))
 exact⟨_,_,rfl,MixK.low m14 (Nat.le_refl _),(bgo b3 g15 l16 (Nat.le_refl _))⟩
theorem find1_any (l:LineA)(A:Option Addr)(k g:Nat)(p:Int)(w:World)(hk:RX.Blk w g 3 #[i6 p])(hb: -9223372036854775808≤l.from_+l.len∧l.from_+l.len≤9223372036854775807):Rt 169 #[.agg #[i6 l.from_,i6 l.len,.slice A l.attrs.length k,sT l.text],pw g 0] w (.bool (decide (p≤l.from_+l.len))):=by
 refine en Tryz.func169 rfl 11 [(0,.agg #[i6 l.from_,i6 l.len,.slice A l.attrs.length k,sT l.text]),(1,pw g 0)] (fun R_ hR_=>?_)
 refine sg (xwe 1 [] [(1,pw g 0),(2,pw w.heap.size 0)] (w.alloc (.cells #[i6 l.from_,i6 l.len,.slice A l.attrs.length k,sT l.text] 78)) [] trivial ?_)
 obtain⟨w1,w5,b2,k3,z4⟩:=new_world w #[i6 l.from_,i6 l.len,.slice A l.attrs.length k,sT l.text] 78
 rw[w5]
 refine xr0 1 [] [] ?_
 refine nl (sg (xe 6 [(4,.load (i6 p)),(6,.load (i6 l.from_)),(8,.load (i6 l.len)),(9,.eq (i6 (l.from_+l.len)))] [(4,i6 p),(9,i6 (l.from_+l.len))] [_,_,_,_] ⟨lc 3 (Blk.below hk b2) 0,lc 3 k3 0,lc 3 k3 1,w6 (l.from_+l.len),trivial⟩ ?_))
 by_cases c6:p≤l.from_+l.len
 ·refine xe1 2 [(10,.eq bT)] [(3,bT)] (dT c6) ?_
  refine nl (X_ret (rj [bT] hR_ ?_))
  rw[show decide (p≤l.from_+l.len)=true from decide_eq_true c6]
  exact⟨rfl,b2⟩
 refine xe1 2 [(10,.eq bF)] [(3,bF)] (dF c6) ?_
 refine nl (X_ret (rj [bF] hR_ ?_))
 rw[show decide (p≤l.from_+l.len)=false from decide_eq_false c6]
 exact⟨rfl,b2⟩
theorem lindex_any (A:Option Addr)(c g:Nat)(ls:List LineA)(p:Int)(w:World)(hC:kLine.C w A ls.length ls)(hn:ls.length≤1000000000)(hk:RX.Blk w g 3 #[i6 p])(hb:∀ j,j<ls.length→ -9223372036854775808≤(ls.getD j line0).from_+(ls.getD j line0).len∧(ls.getD j line0).from_+(ls.getD j line0).len≤9223372036854775807)(hf:lnFind p ls<ls.length):Rt 167 #[.slice A ls.length c,.func (.func 169) #[] #[pw g 0]] w (i6 (lnFind p ls:Int)):=by
 refine en Tryz.func167 rfl 19 [(0,aL A ls c),(1,.func (.func 169) #[] #[pw g 0])] (fun R_ hR_=>?_)
 refine sg (xe0 1 [(0,aL A ls c),(1,.func (.func 169) #[] #[pw g 0])] ?_)
 refine nl (sq (sg (xr0 3 [(7,i6 (ls.length:Int)),(8,i6 0)] [] ?_)))
 refine nl (bk (X_loop (ι:=Nat) (fun i=>[(0,aL A ls c),(1,.func (.func 169) #[] #[pw g 0]),(7,i6 (ls.length:Int)),(8,i6 (i:Int))]) (fun i wl=>i≤ls.length∧(∀ j,j<i→¬p≤(ls.getD j line0).from_+(ls.getD j line0).len)∧Below w.heap.size w wl) (fun i=>ls.length-i) 0 ⟨Nat.zero_le _,fun j hj=>absurd hj (Nat.not_lt_zero _),(Below.refl _ _)⟩ (by kernel_rfl) ?_))
 rintro i wl ⟨hi,hq0,HB⟩
 refine sq (X_region ?_)
 by_cases c1:(i:Int)<(ls.length:Int)
 ·refine xr1 1 [(9,.eq bT)] [(9,bT)] [] (dT c1) ?_
  refine nl (sq (ct (sk (sq (bk (sg (xr0 2 [(5,nv i)] [9] ?_)))))))
  refine nl (sg (xr0 3 [(11,.func (.func 169) #[] #[pw g 0]),(12,aL A ls c),(13,nv i)] [] ?_))
  obtain⟨ad2,B5,c6,a3,c4,l7,C8⟩:=RX.Kd.atLine (Kd.C_below hC HB) (i:=(i:Int)) (by omega) (by omega)
  replace c4:CellsAt wl (ad2.add ((i:Int).toNat*4)) [i6 ((ls.getD i line0).from_),i6 ((ls.getD i line0).len),.slice B5 ((ls.getD i line0).attrs.length) c6,sT ((ls.getD i line0).text)]:=c4
  replace l7:(ls.getD i line0).attrs.length≤c6:=l7
  replace C8:kAttr.C wl B5 ((ls.getD i line0).attrs.length) (ls.getD i line0).attrs:=C8
  refine xr 2 [(14,.idx ad2),(15,.load (.agg #[i6 ((ls.getD i line0).from_),i6 ((ls.getD i line0).len),.slice B5 ((ls.getD i line0).attrs.length) c6,sT ((ls.getD i line0).text)]))] [(15,.agg #[i6 ((ls.getD i line0).from_),i6 ((ls.getD i line0).len),.slice B5 ((ls.getD i line0).attrs.length) c6,sT ((ls.getD i line0).text)])] [12,13] [A=some ad2,(0:Int)≤(i:Int),(i:Int)<(ls.length:Int),la 78 (ad2.add ((i:Int).toNat*4)) (.agg #[i6 ((ls.getD i line0).from_),i6 ((ls.getD i line0).len),.slice B5 ((ls.getD i line0).attrs.length) c6,sT ((ls.getD i line0).text)]) wl] ⟨a3,(by omega),(by omega),loadsE rfl rfl c4 0 ⟨by kernel_rfl,by kernel_rfl⟩,trivial⟩ ?_
  refine XL_callv 169 rfl rfl rfl ent169 #[pw g 0] (by kernel_rfl) [.agg #[i6 ((ls.getD i line0).from_),i6 ((ls.getD i line0).len),.slice B5 ((ls.getD i line0).attrs.length) c6,sT ((ls.getD i line0).text)]] (by kernel_rfl) (find1_any (ls.getD i line0) _ _ g p _ (Blk.below hk HB) (hb i (by omega))) ?_
  rintro e w9 ⟨rfl,b10⟩; refine⟨_,rfl,?_⟩
  refine nl ?_
  by_cases c11:decide (p≤(ls.getD i line0).from_+(ls.getD i line0).len)=true
  ·rw[show (decide (p≤(ls.getD i line0).from_+(ls.getD i line0).len):Bool)=true from by simpa using c11]
   refine ct (sg (xe0 2 [(4,nv i)] ?_))
   refine nl (X_ret (rj [i6 (i:Int)] hR_ ?_))
   rw[lnFind_of (p:=p) (ls:=ls) (i:=i) (by omega) hq0 (fun _=>of_decide_eq_true c11)]
   exact⟨rfl,(bt HB b10)⟩
  rw[show (decide (p≤(ls.getD i line0).from_+(ls.getD i line0).len):Bool)=false from by simpa using c11]
  refine cf (sk (rg (xr1 2 [(18,.eq (i6 ((i:Int)+1)))] [(8,i6 ((i:Int)+1))] [5,11,15,16] (w6 ((i:Int)+1)) ?_)))
  refine nl ?_
  refine⟨(i+1),by kernel_rfl,?_,?_⟩
  ·exact⟨by omega,(fun j hj=>by by_cases e_:j=i; (· subst e_; exact fun h_=>c11 (decide_eq_true h_)); (· exact hq0 j (by omega))),(bt HB b10)⟩
  (try dsimp only); omega
 refine xr1 1 [(9,.eq bF)] [(9,bF)] [] (dF c1) ?_
 refine nl (sq (cf (X_exit (sg (xe0 1 [(4,i6 (-1))] ?_)))))
 refine nl (X_ret (rj [i6 (-1)] hR_ ?_))
 exact absurd (lnFind_at p ls hf) (hq0 _ (by omega))
set_option maxHeartbeats 1000000 in
theorem lfind_any (A:Option Addr)(c:Nat)(ls:List LineA)(p:Int)(w:World)(hC:kLine.C w A ls.length ls)(hn:ls.length≤100000000)(hp0: -9223372036854775808≤p∧p≤9223372036854775807)(hb:∀ j,j<ls.length→ -9223372036854775808≤(ls.getD j line0).from_+(ls.getD j line0).len∧(ls.getD j line0).from_+(ls.getD j line0).len≤9223372036854775807):Rt 112 #[.slice A ls.length c,i6 p] w (i6 (lnFind p ls:Int)):=by
 refine en Tryz.func112 rfl 13 [(0,aL A ls c),(1,i6 p)] (fun R_ hR_=>?_)
 refine sg (xwe 1 [] [(0,aL A ls c),(3,pw w.heap.size 0)] (w.alloc (.cells #[i6 p] 3)) [] trivial ?_)
 obtain⟨w1,w5,b2,k3,z4⟩:=new_world w #[i6 p] 3
 rw[w5]
 refine xr0 1 [] [] ?_
 refine nl (sq (X_grow [5,7] 9 (tf 0 9) (by kernel_rfl) (by kernel_rfl) (by kernel_rfl) (fun wd6 b7 h8=>?_)))
 refine XB_runC (fuel':=6) (Below.refl _ _) [0,2,3] [(7,.load (i6 p))] [.slice A ls.length c,i6 p,.agg #[i6 p,i6 0,.slice none 0 0,s0]] #[true,false,true,true,false,false,false,false,false] [(5,aL A ls c),(8,.agg #[i6 p,i6 0,.slice none 0 0,s0])] [0] (fun w_=>[la 3 (⟨w.heap.size,0,none⟩) (i6 p) w_]) (fun w_ hC_=>⟨loads1 rfl (Blk.cell (Blk.below k3 (bt b7 hC_)) 0 _ rfl),trivial⟩) ?_
 refine XB_pure (fuel':=5) [6] [] [.func (.func 169) #[] #[pw w.heap.size 0]] #[true,false,true,true,false,false,true,false,false] [(5,aL A ls c),(8,.agg #[i6 p,i6 0,.slice none 0 0,s0]),(11,.func (.func 169) #[] #[pw w.heap.size 0])] (fun w_=>[]) (fun _ _ _ _ h=>h) (fun w_=>by kernel_rfl) rfl (fun w_=>trivial) ?_
 refine XB_two (fuel':=4) 1 4 #[true,true,true,true,false,false,true,false,false] #[true,false,true,true,true,false,true,false,false] _ _ rfl rfl (by kernel_rfl) (by kernel_rfl) (by kernel_rfl) rfl ?_ ?_
 ·refine xc 168 ent168 [aL A ls c] (lclone_any _ _ ls _ (Kd.C_below hC (bt b2 b7)) (by omega)) ?_
  rintro e w12 ⟨A9,c10,rfl,m11,b13⟩; refine⟨_,rfl,?_⟩
  refine nl ?_
  refine⟨b13,?_⟩
  refine XB_mid (fuel':=3) 4 #[true,true,true,true,true,false,true,false,false] _ rfl (by kernel_rfl) (by kernel_rfl) rfl ?_
  refine xw 1 [] [(6,aL A9 ls c10),(9,.slice (some ⟨w12.heap.size,0,none⟩) 1 1)] [5,8] (w12.alloc (.cells #[i6 p,i6 0,.slice none 0 0,s0] 78)) [] trivial ?_
  obtain⟨w14,w18,b15,k16,z17⟩:=new_world w12 #[i6 p,i6 0,.slice none 0 0,s0] 78
  rw[w18]
  refine nl ?_
  refine⟨(bt b13 b15),?_⟩
  refine XB_act (fuel':=2) 5 (tf 7 2) _ rfl (by kernel_rfl) rfl (by kernel_rfl) rfl ?_
  have R19:=Kd.R_litB (kRaw 4) (W:=w12) (e:=78) (cs:=#[i6 p,i6 0,.slice none 0 0,s0]) [[i6 p,i6 0,.slice none 0 0,s0]] k16 (rawL1 _ rfl (by kernel_rfl)) (Nat.le_of_ble_eq_true (by kernel_rfl))
  refine XL_appendMixK (d:=kLine) (W0:=wd6) (B:=wd6.heap.size) (c':=1) (m:=1) line0 rfl rfl rfl 78 (.agg #[i6 0,i6 0,.slice none 0 0,s0]) 56 Tryz.underlying66 info78 rfl (by decide) (by omega) ls [(⟨p,0,[],ByteArray.empty⟩:LineA)] [[i6 p,i6 0,.slice none 0 0,s0]] (by kernel_rfl) (MixK.below m11 b15) (Kd.R_C R19) rfl (fun i_ hi_=>by have h_:i_=0:=(by omega); subst h_; exact(kLine_K_of (x:=(⟨p,0,[],ByteArray.empty⟩:LineA)) (Nat.zero_le _) ⟨rfl,Nat.zero_le _,fun h=>absurd h (Nat.not_lt_zero _)⟩)) ((bt b13 b15)).size (by omega) ?_
  intro A20 c21 w22 m23 g24 l25
  have k26:=Blk.off (Blk.below k3 (bt (bt b7 b13) b15)) g24 (MixK.blk_ne (MixK.below m11 b15) (Blk.below k3 (bt (bt b7 b13) b15)) rfl)
  have B28:Below wd6.heap.size wd6 w22:=(bgo (bt b13 b15) g24 l25 (Nat.le_refl _))
  have C27:kLine.C w22 A20 (ls++[(⟨p,0,[],ByteArray.empty⟩:LineA)]).length (ls++[(⟨p,0,[],ByteArray.empty⟩:LineA)]):=MixK.C m23 B28
  refine nl (XB_act (fuel':=1) 7 (tf 8 1) _ rfl (by kernel_rfl) rfl (by kernel_rfl) rfl ?_)
  refine xc 167 ent167 [.slice A20 ((ls++[(⟨p,0,[],ByteArray.empty⟩:LineA)]).length) c21,.func (.func 169) #[] #[pw w.heap.size 0]] (lindex_any _ _ _ (ls++[(⟨p,0,[],ByteArray.empty⟩:LineA)]) p _ C27 (by rw[List.length_append,List.length_singleton]; omega) k26 (fun j_ h_=>by rcases getD_app h_ with ⟨h1_,h2_⟩|⟨_,h2_⟩; (· rw[h2_]; exact hb j_ h1_); (· rw[h2_]; show -9223372036854775808≤p+0∧p+0≤9223372036854775807; omega)) (by rw[lnFind_app,List.length_append,List.length_singleton]; have:=lnFind_le p ls; omega)) ?_
  rintro e w29 ⟨rfl,b30⟩; refine⟨_,rfl,?_⟩
  rw[lnFind_app]
  refine nl (XB_pure (fuel':=0) [8] [] [i6 (lnFind p ls:Int)] (tf 9 0) [(4,i6 (lnFind p ls:Int))] (fun w_=>[]) (fun _ _ _ _ h=>h) (fun w_=>by kernel_rfl) rfl (fun w_=>trivial) ?_)
  refine XB_done (by kernel_rfl) ?_
  refine X_ret (rj [i6 (lnFind p ls:Int)] hR_ ?_)
  have B31:Below w.heap.size w w29:=(bt (bgo (bt (bt (bt b2 b7) b13) b15) g24 l25 ((bt b2 b7)).size) b30)
  exact⟨rfl,B31⟩
 refine xw 1 [] [(9,.slice (some ⟨wd6.heap.size,0,none⟩) 1 1)] [8] (wd6.alloc (.cells #[i6 p,i6 0,.slice none 0 0,s0] 78)) [] trivial ?_
 obtain⟨w32,w36,b33,k34,z35⟩:=new_world wd6 #[i6 p,i6 0,.slice none 0 0,s0] 78
 rw[w36]
 refine nl ?_
 refine⟨b33,?_⟩
 refine XB_mid (fuel':=3) 1 #[true,true,true,true,true,false,true,false,false] _ rfl (by kernel_rfl) (by kernel_rfl) rfl ?_
 refine xc 168 ent168 [aL A ls c] (lclone_any _ _ ls _ (Kd.C_below hC (bt (bt b2 b7) b33)) (by omega)) ?_
 rintro e w40 ⟨A37,c38,rfl,m39,b41⟩; refine⟨_,rfl,?_⟩
 refine nl ?_
 refine⟨(bt b33 b41),?_⟩
 refine XB_act (fuel':=2) 5 (tf 7 2) _ rfl (by kernel_rfl) rfl (by kernel_rfl) rfl ?_
 have R42:=Kd.R_litB (kRaw 4) (W:=wd6) (e:=78) (cs:=#[i6 p,i6 0,.slice none 0 0,s0]) [[i6 p,i6 0,.slice none 0 0,s0]] k34 (rawL1 _ rfl (by kernel_rfl)) (Nat.le_of_ble_eq_true (by kernel_rfl))
 refine XL_appendMixK (d:=kLine) (W0:=w32) (B:=w32.heap.size) (c':=1) (m:=1) line0 rfl rfl rfl 78 (.agg #[i6 0,i6 0,.slice none 0 0,s0]) 56 Tryz.underlying66 info78 rfl (by decide) (by omega) ls [(⟨p,0,[],ByteArray.empty⟩:LineA)] [[i6 p,i6 0,.slice none 0 0,s0]] (by kernel_rfl) m39 (Kd.C_below (Kd.R_C R42) b41) rfl (fun i_ hi_=>by have h_:i_=0:=(by omega); subst h_; exact(kLine_K_of (x:=(⟨p,0,[],ByteArray.empty⟩:LineA)) (Nat.zero_le _) ⟨rfl,Nat.zero_le _,fun h=>absurd h (Nat.not_lt_zero _)⟩)) (b41).size (by omega) ?_
 intro A43 c44 w45 m46 g47 l48
 have k49:=Blk.off (Blk.below k3 (bt (bt b7 b33) b41)) g47 (MixK.blk_ne m39 (Blk.below k3 (bt (bt b7 b33) b41)) rfl)
 have C50:kLine.C w45 A43 (ls++[(⟨p,0,[],ByteArray.empty⟩:LineA)]).length (ls++[(⟨p,0,[],ByteArray.empty⟩:LineA)]):=MixK.C m46 (bgo b41 g47 l48 (Nat.le_refl _))
 refine nl (XB_act (fuel':=1) 7 (tf 8 1) _ rfl (by kernel_rfl) rfl (by kernel_rfl) rfl ?_)
 refine xc 167 ent167 [.slice A43 ((ls++[(⟨p,0,[],ByteArray.empty⟩:LineA)]).length) c44,.func (.func 169) #[] #[pw w.heap.size 0]] (lindex_any _ _ _ (ls++[(⟨p,0,[],ByteArray.empty⟩:LineA)]) p _ C50 (by rw[List.length_append,List.length_singleton]; omega) k49 (fun j_ h_=>by rcases getD_app h_ with ⟨h1_,h2_⟩|⟨_,h2_⟩; (· rw[h2_]; exact hb j_ h1_); (· rw[h2_]; show -9223372036854775808≤p+0∧p+0≤9223372036854775807; omega)) (by rw[lnFind_app,List.length_append,List.length_singleton]; have:=lnFind_le p ls; omega)) ?_
 rintro e w51 ⟨rfl,b52⟩; refine⟨_,rfl,?_⟩
 rw[lnFind_app]
 refine nl (XB_pure (fuel':=0) [8] [] [i6 (lnFind p ls:Int)] (tf 9 0) [(4,i6 (lnFind p ls:Int))] (fun w_=>[]) (fun _ _ _ _ h=>h) (fun w_=>by kernel_rfl) rfl (fun w_=>trivial) ?_)
 refine XB_done (by kernel_rfl) ?_
 refine X_ret (rj [i6 (lnFind p ls:Int)] hR_ ?_)
 have B53:Below w.heap.size w w51:=(bt (bgo (bt (bt (bt b2 b7) b33) b41) g47 l48 ((bt (bt b2 b7) b33)).size) b52)
 exact⟨rfl,B53⟩
end Go.Proofs.YtgphmfnkeolbcaaGreatDoor
