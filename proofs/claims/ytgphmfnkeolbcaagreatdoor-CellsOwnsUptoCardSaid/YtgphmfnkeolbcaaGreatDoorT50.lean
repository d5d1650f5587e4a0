import Derived.Test.YtgphmfnkeolbcaaGreatDoorIn
import Derived.Test.YtgphmfnkeolbcaaGreatDoorPrm
/- What cells.Each hands over: number, cell, where its attributes lie. No condition. -/
set_option linter.unusedVariables false
set_option linter.unusedSimpArgs false
namespace Go.Proofs.YtgphmfnkeolbcaaGreatDoor
open Go Go.RowKit Go.Proofs.YtgphmfnkeolbcaaGreatDoorW.PrintWords RX
abbrev ElA :=Int×CellA×Option Addr×Nat
def el0 :ElA:=(0,cell0,none,0)
def elV (x:ElA):Array Value:=#[.int .i64 x.1,.agg #[.int .i32 x.2.1.rune,.string x.2.1.kind,.int .i64 x.2.1.vk,.int .i64 x.2.1.vn,.string x.2.1.vt,.slice x.2.2.1 x.2.1.attrs.length x.2.2.2]]
def ElPx (n0:Nat)(x:ElA)(W:World):Prop:=0≤x.1∧x.2.1.attrs.length≤100000000∧∃ wb:World,n0≤wb.heap.size∧x.2.1.attrs.length≤x.2.2.2∧kAttr.R 57 W wb.heap.size (OkFrom wb.heap.size) (.slice x.2.2.1 x.2.1.attrs.length x.2.2.2) x.2.1.attrs
def EAp (x y:ElA):Prop:=∀ k,x.2.2.1.map (·.block)=some k→y.2.2.1.map (·.block)≠some k
def ELt (pre:List ElA)(n:Nat):Prop:=∀ t,t<pre.length→∀ k,(pre.getD t el0).2.2.1.map (·.block)=some k→k<n
def EOK (L:List CellA)(pre:List ElA):Prop:=pre.length≤L.length∧(∀ t,t<pre.length→(pre.getD t el0).1=(t:Int)∧(pre.getD t el0).2.1=L.getD t cell0)∧∀ s t,s<t→t<pre.length→EAp (pre.getD s el0) (pre.getD t el0)
def EOKn (L:List CellA)(pre:List ElA)(n:Nat):Prop:=EOK L pre∧ELt pre n
theorem EOK.nil (L:List CellA):EOK L []:=⟨Nat.zero_le _,fun t ht=>by simp at ht,fun s t _ ht=>by simp at ht⟩
theorem EOKn.nil (L:List CellA)(n:Nat):EOKn L [] n:=⟨EOK.nil L,fun t ht=>by simp at ht⟩
theorem EOKn.mono {L:List CellA}{pre:List ElA}{n n':Nat}(h:EOKn L pre n)(hn:n≤n'):EOKn L pre n':=⟨h.1,fun t ht k hk=>Nat.lt_of_lt_of_le (h.2 t ht k hk) hn⟩
theorem snocD {pre:List ElA}{x:ElA}{t:Nat}(h:t<(pre++[x]).length):t<pre.length∧(pre++[x]).getD t el0=pre.getD t el0∨t=pre.length∧(pre++[x]).getD t el0=x:=by
  rw[List.length_append,List.length_singleton]at h
  rcases Nat.lt_or_ge t pre.length with h3|h3
  · exact .inl ⟨h3,by rw[List.getD_eq_getElem?_getD,List.getElem?_append_left h3,List.getD_eq_getElem?_getD]⟩
  · obtain rfl:t=pre.length:=by omega
    exact .inr ⟨rfl,by simp[List.getD_eq_getElem?_getD]⟩
theorem EOK.snoc {L:List CellA}{pre:List ElA}{x:ElA}{n:Nat}(h:EOKn L pre n)(hl:pre.length<L.length)(h1:x.1=(pre.length:Int))(h2:x.2.1=L.getD pre.length cell0)(h3:∀ k,x.2.2.1.map (·.block)=some k→n≤k):EOK L (pre++[x]):=by
  refine⟨by rw[List.length_append,List.length_singleton]; exact hl,fun t ht=>?_,fun s t hst ht=>?_⟩
  · rcases snocD ht with ⟨h4,e⟩|⟨rfl,e⟩<;>rw[e]
    · exact h.1.2.1 t h4
    · exact⟨h1,h2⟩
  · rcases snocD ht with ⟨h4,e⟩|⟨rfl,e⟩<;>rcases snocD (Nat.lt_trans hst ht)with ⟨h5,e2⟩|⟨h5,e2⟩<;>rw[e,e2]
    · exact h.1.2.2 s t hst h4
    · omega
    · intro k hk hx
      exact absurd (h.2 s h5 k hk) (Nat.not_lt.2 (h3 k hx))
    · omega
theorem EOKn.snoc {L:List CellA}{pre:List ElA}{x:ElA}{n n':Nat}(h:EOKn L pre n)(hl:pre.length<L.length)(h1:x.1=(pre.length:Int))(h2:x.2.1=L.getD pre.length cell0)(h3:∀ k,x.2.2.1.map (·.block)=some k→n≤k∧k<n')(hn:n≤n'):EOKn L (pre++[x]) n':=by
  refine⟨EOK.snoc h hl h1 h2 fun k hk=>(h3 k hk).1,fun t ht=>?_⟩
  rcases snocD ht with ⟨h4,e⟩|⟨rfl,e⟩<;>rw[e]
  · exact(h.mono hn).2 t h4
  · exact fun k hk=>(h3 k hk).2
theorem EOK.last {L:List CellA}{pre:List ElA}{x:ElA}(h:EOK L (pre++[x])):pre.length<L.length∧x.1=(pre.length:Int)∧x.2.1=L.getD pre.length cell0:=by
  have h1:=h.1
  rw[List.length_append,List.length_singleton]at h1
  have h2:=h.2.1 pre.length (by simp)
  have e:(pre++[x]).getD pre.length el0=x:=by simp[List.getD_eq_getElem?_getD]
  rw[e]at h2
  exact⟨h1,h2.1,h2.2⟩
def YD (D:Nat→Prop)(P:Program)(lp n0:Nat)(J:List ElA→(Nat→Prop)→World→Prop)(Jx:List ElA→World→Prop)(Q:Nat):Prop:=
  ∀ pre M x W1,J pre M W1→ElPx n0 x W1→pre.length<Q→YieldAt Fence.wide 1 P lp (elV x) W1 fun e W'=>
    (e=.returned (.bool true)∧∃ M',J (pre++[x]) M' W'∧KpM D M W1 W'∧(∀ k,M' k→M k∨W1.heap.size≤k))∨(e=.returned (.bool false)∧Jx (pre++[x]) W')
def ToldR (D:Nat→Prop)(J:List ElA→(Nat→Prop)→World→Prop)(Jx:List ElA→World→Prop)(pre:List ElA)(M:Nat→Prop)(n:Nat)(cl:CellA)(W1:World)(e:Ending)(W':World):Prop:=
  ∃ x:ElA,x.1=(n:Int)∧x.2.1=cl∧(∀ k,x.2.2.1.map (·.block)=some k→W1.heap.size≤k)∧((e=.returned (.bool true)∧∃ M',J (pre++[x]) M' W'∧KpM D M W1 W'∧(∀ k,M' k→M k∨W1.heap.size≤k)∧(∀ k,x.2.2.1.map (·.block)=some k→k<W'.heap.size))∨(e=.returned (.bool false)∧Jx (pre++[x]) W'))
theorem cellsAll_le (xs:List OpA)(i:Nat):(cellsAll (xs.take i)).length≤(cellsAll xs).length:=by
  have h:xs.flatMap cellsP=(xs.take i).flatMap cellsP++(xs.drop i).flatMap cellsP:=by rw[←List.flatMap_append,List.take_append_drop]
  unfold cellsAll
  rw[h,List.length_append]
  omega
theorem cellsAll_at {xs:List OpA}{i j n:Nat}(hi:i<xs.length)(hj:j<(cellsP (xs.getD i op0)).length)(hn:n=(cellsAll (xs.take i)).length+j):(cellsP (xs.getD i op0)).getD j cell0=(cellsAll xs).getD n cell0:=by
  subst hn
  have h:xs.flatMap cellsP=(xs.take i).flatMap cellsP++(cellsP (xs.getD i op0)++(xs.drop (i+1)).flatMap cellsP):=by
    have e:xs=xs.take i++(xs.getD i op0::xs.drop (i+1)):=by
      rw[List.getD_eq_getElem?_getD,List.getElem?_eq_getElem hi,Option.getD_some,←List.drop_eq_getElem_cons hi,List.take_append_drop]
    conv=>lhs; rw[e]
    rw[List.flatMap_append,List.flatMap_cons]
  unfold cellsAll
  rw[h]
  generalize cellsP (xs.getD i op0)=u at hj ⊢
  rw[List.getD_eq_getElem?_getD,List.getD_eq_getElem?_getD,List.getElem?_append_right (by omega),Nat.add_sub_cancel_left,List.getElem?_append_left hj]
theorem cellsP_len {o:OpA}(hz:opSz o){j:Nat}(hj:j<(cellsP o).length):((cellsP o).getD j cell0).attrs.length≤100000000:=by
  have hz3:=hz.2.2.1
  by_cases hk:o.kind=2
  · rw[cellsP_2 hk]at hj ⊢
    obtain rfl:j=0:=by simpa using hj
    exact Nat.le_trans hz3 (by decide)
  · unfold cellsP at hj ⊢
    rw[if_neg hk]at hj ⊢
    rw[List.length_map]at hj
    rw[List.getD_eq_getElem?_getD,List.getElem?_map,List.getElem?_eq_getElem hj]
    exact Nat.le_trans hz3 (by decide)
theorem ownFrom_px {B n0:Nat}:OwnFrom B (fun x W=>ElPx n0 x W):=by
  rintro x W W' row ⟨h0,hq,wb,h1,h2,h3⟩ hg hr
  exact⟨h0,hq,wb,h1,h2,RX.ownFrom_R (β:=Unit) (B:=B) kAttr 57 wb.heap.size (fun _=>.slice x.2.2.1 x.2.1.attrs.length x.2.2.2) (fun _=>x.2.1.attrs) () W W' row h3 hg hr⟩
theorem ElPx.below {n0:Nat}{x:ElA}{W W':World}(hb:Below W.heap.size W W')(h:ElPx n0 x W):ElPx n0 x W':=by
  obtain⟨h0,hq,wb,h1,h2,h3⟩:=h
  exact⟨h0,hq,wb,h1,h2,Kd.R_below h3 hb⟩
theorem KpM.grown {D M:Nat→Prop}{A B:World}{row:Option Nat}(hg:A.grownBy B row)(hr:∀ k,row=some k→M k∧¬D k)(hn:∀ k,D k→k<A.heap.size):KpM D M A B:=
  ⟨hg.os,hg.tape,hg.output,hg.size,fun k hk=>hg.block k (hn k hk) fun e=>(hr k e.symm).2 hk,fun k o hk _ hM=>(hg.block k (Array.getElem?_eq_some_iff.1 hk).1 fun e=>hM (hr k e.symm).1).trans hk⟩
theorem keeps_row {α:Type}{d:Kd α}{e B base:Nat}{ok:Nat→Prop}{W W':World}{A:Option Addr}{n c:Nat}{xs:List α}(hR:d.R e W base ok (.slice A n c) xs)(hg:W.grownBy W' (A.map (·.block))):KeepsFrom B W W':=by
  refine⟨hg.size,fun k o _ hk ho=>(hg.block k (Array.getElem?_eq_some_iff.1 hk).1 fun e=>?_).trans hk⟩
  obtain⟨inner,hw⟩:=Kd.R_own hR
  obtain⟨cells,hc⟩:=own_typed hw k (by rw[ownB]; exact e.symm)
  rw[hk]at hc
  injection hc with hc
  subst hc
  cases ho
theorem EOK.all {L:List CellA}{xs:List ElA}(h:EOK L xs)(hl:xs.length=L.length):xs.map (fun x:ElA=>x.2.1)=L:=by
  refine List.ext_getElem (by rw[List.length_map,hl]) fun t h1 h2=>?_
  rw[List.length_map]at h1
  have:=(h.2.1 t h1).2
  rw[List.getElem_map]
  simpa [List.getD_eq_getElem?_getD,List.getElem?_eq_getElem h1,List.getElem?_eq_getElem h2] using this
def DI (n lo hi:Nat):Nat→Prop:=fun k=>k<n∨(lo≤k∧k<hi)
def Kd.comapP {α β:Type}(f:β→α)(p:β→List Value→Prop)(d:Kd α):Kd β where
  sz:=d.sz
  E:=d.E
  K:=fun w x cs=>d.K w (f x) cs∧p x cs
  M:=fun w b ok x cs=>d.M w b ok (f x) cs∧p x cs
  K_len:=fun h=>d.K_len h.1
  K_one:=fun h=>d.K_one h.1
  K_below:=fun hb h=>⟨d.K_below hb h.1,h.2⟩
  K_of_M:=fun h=>⟨d.K_of_M h.1,h.2⟩
  M_mono:=fun hk h=>⟨d.M_mono hk h.1,h.2⟩
  M_bound:=fun h=>⟨d.M_bound h.1,h.2⟩
  M_move:=fun hm h=>⟨d.M_move hm h.1,h.2⟩
  M_lower:=fun hb h=>⟨d.M_lower hb h.1,h.2⟩
def kEl :Kd ElA:=Kd.comapP (fun x=>x.2.1) (fun x cs=>cs=cellV x.2.1 x.2.2.1 x.2.2.2) kCell
theorem kEl_R {e base:Nat}{ok:Nat→Prop}{w:World}{v:Value}{xs:List ElA}(h:kEl.R e w base ok v xs):kCell.R e w base ok v (xs.map fun x=>x.2.1):=by
  obtain⟨h0,inner,ho,hr⟩:=h
  refine⟨h0,inner,by rw[List.length_map]; exact ho,by rw[List.length_map]; exact hr.1,fun j p hj=>?_⟩
  rw[List.getElem?_map]at hj
  obtain⟨x,hx,rfl⟩:=Option.map_eq_some_iff.1 hj
  exact(hr.2 j x hx).1
def RowI (w:World)(g6 hi:Nat)(pre:List ElA)(M:Nat→Prop)(W:World):Prop:=
  ∃ A6 c6,RX.Blk W g6 39 #[.slice A6 pre.length c6]∧kEl.R 51 W w.heap.size (OkFrom w.heap.size) (.slice A6 pre.length c6) pre∧M=(fun k=>k=g6∨A6.map (·.block)=some k)∧(∀ k,A6.map (·.block)=some k→hi≤k)∧Below w.heap.size w W
theorem RowI.own {w:World}{g6 hi B:Nat}(h:w.heap.size≤B)(M:Nat→Prop):OwnFrom B (fun s W=>RowI w g6 hi s M W):=by
  rintro s W W' row ⟨A6,c6,h2,h3,h4,h5,h6⟩ hg hr
  exact⟨A6,c6,RX.ownFrom_blk (β:=Unit) (B:=B) (fun _=>g6) _ (fun _=>_) () W W' row h2 hg hr,RX.ownFrom_R (β:=Unit) (B:=B) kEl _ w.heap.size (fun _=>_) (fun _=>s) () W W' row h3 hg hr,h4,h5,RX.ownFrom_below' (β:=Unit) w h () W W' row h6 hg hr⟩
theorem RowI.im {w:World}{g6 lo hi:Nat}{pre:List ElA}{M:Nat→Prop}{W:World}(h:RowI w g6 hi pre M W)(h1:w.heap.size≤g6)(h2:g6<lo)(h3:lo≤hi):∀ k,M k→¬DI w.heap.size lo hi k∧k<W.heap.size:=by
  obtain⟨A6,c6,e2,e3,rfl,e5,e6⟩:=h
  rintro k (rfl|hk)
  · exact⟨fun h=>by rcases h with h|h<;>omega,e2.lt⟩
  · have:=e5 k hk
    have hl:=Kd.R_lt e3 k hk
    exact⟨fun h=>by rcases h with h|h<;>omega,hl⟩
theorem Off.row {α:Type}{d:Kd α}{e base:Nat}{ok:Nat→Prop}{ds:List Nat}{w w':World}{v:Value}{xs:List α}(h:Off ds w w')(hD:Defs ds w)(hR:d.R e w base ok v xs):d.R e w' base ok v xs:=
  Kd.R_mono (Kd.R_move (Kd.R_bound hR) fun k hk=>by
    obtain⟨_,_,_,q,_,cells,hc⟩:=hk
    exact(RX.Off.blk h hD (show RX.Blk w k q cells from hc)).trans hc.symm) fun _ hk=>hk.1
theorem kCell_M_slice {w:World}{base:Nat}{ok:Nat→Prop}{x:CellA}{cs:List Value}(h:kCell.M w base ok x cs):∃ B c,cs=cellV x B c∧x.attrs.length≤c∧kAttr.R 57 w base ok (.slice B x.attrs.length c) x.attrs:=by
  obtain⟨_,_,rfl,rfl,_,_,rfl,rfl,_,_,rfl,⟨_,_,rfl,rfl,_,_,rfl,rfl,rfl⟩,v,rfl,hR⟩:=h
  obtain⟨A,c,rfl,hl,_⟩:=Kd.R_reads hR
  exact⟨A,c,rfl,hl,hR⟩
noncomputable def atP (xs:List OpA) (i:Int):CellA×Nat:=if isDoc xs=true then (if i<0∨(cellsAll xs).length≤i then (cell0,12)else ((cellsAll xs).getD i.toNat cell0,0))else (cell0,9)
set_option maxRecDepth 100000
theorem ent96 :Ent Tryz.prog 96:=ent_of Tryz.func96 (by kernel_rfl) rfl
theorem ent32 :Ent Tryz.prog 32:=ent_of Tryz.func32 (by kernel_rfl) rfl
theorem inserts_any (d:Nat)(xs:List OpA)(w:World)(hd:DeltaC w d xs)(hb:badE xs=0)(hn:xs.length≤1100000)(hz:∀ i,i<xs.length→opSz (xs.getD i op0)):Calls Tryz.prog 96 #[pw d 0] w fun e w'=>∃ A' c' zs,zs=(if isDoc xs=true then xs else [])∧e=.returned (.tuple #[.slice A' zs.length c',.bool (isDoc xs)])∧zs.length≤c'∧kOp.R 102 w' w.heap.size (OkFrom w.heap.size) (.slice A' zs.length c') zs∧Below w.heap.size w w':=by
 refine en Tryz.func96 rfl 25 [(0,pw d 0)] (fun R_ hR_=>?_)
 refine sg (xe0 2 [(0,pw d 0)] ?_)
 refine nl (sg (xe0 1 [(7,pw d 0)] ?_))
 refine xc 56 ent56 [pw d 0] (dops_any d xs _ hd hb hn hz) ?_
 rintro e w5 ⟨A1,c2,rfl,l3,r4,b6⟩; refine⟨_,rfl,?_⟩
 refine xe0 1 [(4,aL A1 xs c2)] ?_
 refine nl (sq (sg (xr0 3 [(9,aL A1 xs c2),(10,i6 (xs.length:Int)),(11,i6 0)] [] ?_)))
 refine nl (bk (X_loop (ι:=Nat) (fun i=>[(4,aL A1 xs c2),(9,aL A1 xs c2),(10,i6 (xs.length:Int)),(11,i6 (i:Int))]) (fun i wl=>i≤xs.length∧(∀ t,t<i→(xs.getD t op0).kind=1∨(xs.getD t op0).kind=2)∧Below w5.heap.size w5 wl) (fun i=>xs.length-i) 0 ⟨by omega,fun t ht=>by omega,Below.refl _ _⟩ (by kernel_rfl) ?_))
 rintro i wl ⟨hi,hk0,HB⟩
 refine sq (X_region ?_)
 by_cases c7:(i:Int)<(xs.length:Int)
 ·refine xr1 1 [(12,.eq bT)] [(12,bT)] [] (dT c7) ?_
  refine nl (sq (ct (sk (sq (bk (sq (X_region ?_)))))))
  obtain⟨ad8,B11,c12,a9,c10,l13,C14⟩:=Kd.atOp (Kd.R_C (Kd.R_below r4 HB)) (i:=(i:Int)) (by omega) (by omega)
  replace c10:CellsAt wl (ad8.add ((i:Int).toNat*7)) (o7L (xs.getD i op0) (aL B11 (xs.getD i op0).attrs c12)):=c10
  replace l13:(xs.getD i op0).attrs.length≤c12:=l13
  replace C14:kAttr.C wl B11 ((xs.getD i op0).attrs.length) (xs.getD i op0).attrs:=C14
  refine xw 3 [(13,.idx ad8),(14,.load (.agg (o7A (xs.getD i op0) (aL B11 (xs.getD i op0).attrs c12))))] [(6,pw wl.heap.size 0),(14,.agg (o7A (xs.getD i op0) (aL B11 (xs.getD i op0).attrs c12)))] [12] (wl.alloc (.cells #[i6 0,s0,i6 0,i6 0,s0,i6 0,.slice none 0 0] 102)) [A1=some ad8,(0:Int)≤(i:Int),(i:Int)<(xs.length:Int),la 102 (ad8.add ((i:Int).toNat*7)) (.agg (o7A (xs.getD i op0) (aL B11 (xs.getD i op0).attrs c12))) wl] ⟨a9,(by omega),(by omega),loadsE rfl rfl c10 0 ⟨by kernel_rfl,by kernel_rfl⟩,trivial⟩ ?_
  obtain⟨w15,w19,b16,k17,z18⟩:=new_world wl #[i6 0,s0,i6 0,i6 0,s0,i6 0,.slice none 0 0] 102
  rw[w19]
  refine xst (.agg (o7A (xs.getD i op0) (aL B11 (xs.getD i op0).attrs c12))) k17 0 (o7A (xs.getD i op0) (aL B11 (xs.getD i op0).attrs c12)) (fun w20 g21 k22 z23=>?_)
  refine nl (sg (xr1 2 [(16,.load (i6 ((xs.getD i op0).kind)))] [(16,i6 ((xs.getD i op0).kind))] [14] (lc 3 k22 0) ?_))
  by_cases c24:(xs.getD i op0).kind=1
  ·refine xr1 6 [(17,.eq bF)] [(22,bF)] [6,16] (nF c24) ?_
   refine nl (cf (sk (rg (xr1 2 [(23,.eq (i6 ((i:Int)+1)))] [(11,i6 ((i:Int)+1))] [22] (w6 ((i:Int)+1)) ?_))))
   refine nl ?_
   refine⟨(i+1),by kernel_rfl,?_,?_⟩
   ·exact⟨by omega,fun t ht=>by by_cases e_:t=i; (· subst e_; exact .inl c24); (· exact hk0 t (by omega)),(bg (bt HB b16) g21 (HB).size)⟩
   (try dsimp only); omega
  refine xr 4 [(17,.eq bT),(20,.load (i6 ((xs.getD i op0).kind)))] [(18,bT),(20,i6 ((xs.getD i op0).kind))] [6,16] [_,_] ⟨nT c24,lc 3 k22 0,trivial⟩ ?_
  by_cases c25:(xs.getD i op0).kind=2
  ·refine xr1 2 [(21,.eq bF)] [(22,bF)] [18,20] (nF c25) ?_
   refine nl (cf (sk (rg (xe1 2 [(23,.eq (i6 ((i:Int)+1)))] [(4,aL A1 xs c2),(9,aL A1 xs c2),(10,i6 (xs.length:Int)),(11,i6 ((i:Int)+1))] (w6 ((i:Int)+1)) ?_))))
   refine nl ?_
   refine⟨(i+1),by kernel_rfl,?_,?_⟩
   ·exact⟨by omega,fun t ht=>by by_cases e_:t=i; (· subst e_; exact .inr c25); (· exact hk0 t (by omega)),(bg (bt HB b16) g21 (HB).size)⟩
   (try dsimp only); omega
  refine xr1 2 [(21,.eq bT)] [(22,bT)] [18,20] (nT c25) ?_
  refine nl (ct (sg (xe0 2 [(2,.slice none 0 0),(3,bF)] ?_)))
  refine nl (X_ret (rj [.slice none 0 0,bF] hR_ ?_))
  have B26:Below w.heap.size w w20:=(bg (bt (bt b6 HB) b16) g21 ((bt b6 HB)).size)
  have hd_:=isDoc_no (xs:=xs) (i:=i) (by omega) c24 c25
  exact⟨none,0,[],by rw[hd_]; rfl,by rw[hd_]; rfl,Nat.le_refl _,Kd.R_nil _ _ _ _ _,B26⟩
 refine xr1 1 [(12,.eq bF)] [(12,bF)] [] (dF c7) ?_
 refine nl (sq (cf (X_exit (sg (xe0 3 [(2,aL A1 xs c2),(3,bT)] ?_)))))
 refine nl (X_ret (rj [.slice A1 xs.length c2,bT] hR_ ?_))
 have hd_:=isDoc_yes (xs:=xs) (fun t ht=>hk0 t (by omega))
 exact⟨_,_,xs,by rw[if_pos hd_],by rw[hd_]; rfl,(RX.Kd.R_len (Kd.R_below r4 HB)).2,Kd.R_low (Kd.R_below r4 HB) (Nat.le_refl _),(bt b6 HB)⟩
end Go.Proofs.YtgphmfnkeolbcaaGreatDoor
