import Derived.Test.YtgphmfnkeolbcaaGreatDoorMixP
import Derived.Test.YtgphmfnkeolbcaaGreatDoorSpare
import Derived.Test.YtgphmfnkeolbcaaGreatDoorCls
import Derived.Test.YtgphmfnkeolbcaaGreatDoorT32
/- What vellumhand.OverAttrs and OverOps write over. Conditions: sizes. -/
set_option linter.unusedVariables false
set_option linter.unusedSimpArgs false
set_option maxRecDepth 100000
namespace Go.Proofs.YtgphmfnkeolbcaaGreatDoor
open Go Go.RowKit Go.Proofs.YtgphmfnkeolbcaaGreatDoorW.PrintWords RX
theorem ent27 :Ent Tryz.prog 27:=ent_of Tryz.func27 (by kernel_rfl) rfl
theorem over_any (B:Option Addr)(m c:Nat)(ok:Nat→Prop)(w:World)(hok:∀ g,w.heap.size≤g→ok g)(hL:LiesO 57 4 ok w B m c)(hm:m≤100000000):Calls Tryz.prog 27 #[.slice B m c] w fun e w'=>e=.returned (.tuple #[])∧SpoilO (· =57) ok w w':=by
 refine en Tryz.func27 rfl 26 [(0,.slice B m c)] (fun R_ hR_=>?_)
 refine sq (sg (xe0 3 [(0,.slice B m c),(6,nv m),(7,i6 0)] ?_))
 refine nl (bk (X_loop (ι:=Nat) (fun i=>[(0,.slice B m c),(6,i6 (m:Int)),(7,i6 (i:Int))]) (fun i wl=>i≤m∧LiesO 57 4 ok wl B m c∧SpoilO (· =57) ok w wl) (fun i=>m-i) 0 ⟨Nat.zero_le _,hL,(SpoilO.refl _ _ _)⟩ (by kernel_rfl) ?_))
 rintro i wl ⟨hi,hL1,hS1⟩
 refine sq (X_region ?_)
 by_cases c1:(i:Int)<(m:Int)
 ·refine xr1 1 [(8,.eq bT)] [(8,bT)] [] (dT c1) ?_
  refine nl (sq (ct (sk (sq (bk (sg (xr0 2 [(2,nv i)] [8] ?_)))))))
  refine nl (rg (xr0 5 [(10,.slice B m c),(11,nv i),(14,.agg #[sT (⟨#[111,118,101,114]⟩:ByteArray),i6 2,nv i,s0])] [2] ?_))
  obtain⟨g5,cs6,a3,g7,k8,s9⟩:=LiesO.at hL1 (by omega)
  obtain⟨ad2,had10⟩:∃ ad_,ad_=(⟨g5,0,none⟩:Addr):=⟨_,rfl⟩
  rw[←had10]at a3
  have c4:True:=trivial
  refine xr 1 [(15,.idx ad2)] [(15,.pointer (some (ad2.add ((i:Int).toNat*4))))] [10,11] [B=some ad2,(0:Int)≤(i:Int),(i:Int)<(m:Int)] ⟨a3,(by omega),(by omega),trivial⟩ ?_
  refine XL_spoilO (v:=.agg #[sT (⟨#[111,118,101,114]⟩:ByteArray),i6 2,i6 (i:Int),s0]) rfl rfl rfl (n:=(i:Int).toNat*4) had10 (by kernel_rfl) k8 g7 [sT (⟨#[111,118,101,114]⟩:ByteArray),i6 2,i6 (i:Int),s0] ⟨by kernel_rfl,by kernel_rfl⟩ (by kernel_rfl) (by simp only[List.length_cons,List.length_nil]; omega) (fun w11 w12=>?_)
  have L13:=LiesO.spoil hL1 (SpoilO.of_wrote (es:=(· =57)) w12 rfl)
  have S14:=SpoilO.trans hS1 (SpoilO.of_wrote w12 rfl)
  refine nl (rg (xr1 2 [(16,.eq (i6 ((i:Int)+1)))] [(7,i6 ((i:Int)+1))] [14,15] (w6 ((i:Int)+1)) ?_))
  refine nl ?_
  refine⟨(i+1),by kernel_rfl,?_,?_⟩
  ·exact⟨by omega,L13,S14⟩
  (try dsimp only); omega
 refine xr1 1 [(8,.eq bF)] [(8,bF)] [] (dF c1) ?_
 refine nl (sq (cf (X_exit (sg (xe0 2 [(3,.slice B m c)] ?_)))))
 refine nl (sg (xr0 1 [(4,i6 0)] [] ?_))
 refine nl (bk (X_loop (ι:=Nat×Option Addr×Nat×Nat) (fun⟨k,B3,m3,c3⟩=>[(3,.slice B3 m3 c3),(4,i6 (k:Int))]) (fun⟨k,B3,m3,c3⟩ wm=>k≤20∧m3=m+k∧LiesO 57 4 ok wm B3 m3 c3∧SpoilO (· =57) ok w wm) (fun⟨k,B3,m3,c3⟩=>20-k) (0,B,m,c) ⟨Nat.zero_le _,rfl,hL1,hS1⟩ (by kernel_rfl) ?_))
 rintro⟨k,B3,m3,c3⟩ wm ⟨hk,hm3,hL2,hS2⟩
 refine sq (sg (xr0 1 [(18,nv k)] [] ?_))
 by_cases c15:(k:Int)<20
 ·refine xr1 1 [(19,.eq bT)] [(19,bT)] [18] (dT c15) ?_
  refine nl (ct (sk (sq (bk (rg (xw 3 [] [(22,.slice B3 m3 c3),(24,.slice (some ⟨wm.heap.size,0,none⟩) 1 1)] [3,19] (wm.alloc (.cells #[sT (⟨#[109,111,114,101]⟩:ByteArray),i6 0,i6 0,s0] 57)) [] trivial ?_))))))
  obtain⟨w16,w20,b17,k18,z19⟩:=new_world wm #[sT (⟨#[109,111,114,101]⟩:ByteArray),i6 0,i6 0,s0] 57
  rw[w20]
  rw[←w20]
  refine XL_appendLiesO rfl rfl rfl 57 (.agg #[s0,i6 0,i6 0,s0]) 4 48 Tryz.underlying49 info57 rfl (by decide) [sT (⟨#[109,111,114,101]⟩:ByteArray),i6 0,i6 0,s0] (by kernel_rfl) (by kernel_rfl) (by kernel_rfl) (fun g_ h_=>hok g_ (Nat.le_trans (hS2).size h_)) hL2 (by omega) (by omega) (fun A21 c22 w23 w24 L25=>?_)
  have S27:=SpoilO.trans hS2 (SpoilO.of_wrote w24 rfl)
  refine xe0 1 [(3,.slice A21 (m3+1) c22),(4,nv k)] ?_
  refine nl (rg (xr1 3 [(21,.eq (i6 ((k:Int)+1)))] [(4,i6 ((k:Int)+1))] [] (w6 ((k:Int)+1)) ?_))
  refine nl ?_
  refine⟨(k+1,A21,(m3+1),c22),by kernel_rfl,?_,?_⟩
  ·exact⟨by omega,by omega,L25,S27⟩
  (try dsimp only); omega
 refine xr1 1 [(19,.eq bF)] [(19,bF)] [18] (dF c15) ?_
 refine nl (cf (X_exit (ek [] (hR_ _ _ ?_))))
 exact⟨rfl,hS2⟩
end Go.Proofs.YtgphmfnkeolbcaaGreatDoor
set_option linter.unusedVariables false
set_option linter.unusedSimpArgs false
set_option maxRecDepth 100000
namespace Go.Proofs.YtgphmfnkeolbcaaGreatDoor.RX
open Go Go.RowKit Go.Proofs.YtgphmfnkeolbcaaGreatDoorW.PrintWords
theorem repsCells0 {w:World}{base:Nat}{ok:Nat→Prop}:∀ (xs:List CellA),(∀ x∈xs,x.attrs=[])→Reps (kCell.M w base ok) 6 xs (xs.flatMap fun x=>cellV x none 0)
  | [],_=>Reps.none _ _
  | x::xs,h=>by
    have hs:Reps (kCell.M w base ok) 6 [x] (cellV x none 0):=by
      have:=(Reps.none (kCell.M w base ok) 6).snoc (kCell_M0 x (h x List.mem_cons_self)) rfl
      simpa using this
    have:=Kd.reps_append hs (repsCells0 xs fun y hy=>h y (List.mem_cons_of_mem _ hy))
    simpa using this
structure ShapeP (p e' e:Nat) (ok:Nat→Prop) (w:World) (A:Option Addr) (n c i:Nat):Prop where
  o:LiesO e' (p+1) ok w A n c
  r:∀ j,i≤j→j<n→∃ ad pre B m c2,A=some ad∧CellsAt w (ad.add (j*(p+1))) (pre++[.slice B m c2])∧pre.length=p∧LiesO e 4 ok w B m c2∧m≤100000000
section
variable {p e' e : Nat} {ok : Nat → Prop} {w w1 : World} {A : Option Addr} {n c i : Nat}
theorem ShapeP.next (h:ShapeP p e' e ok w A n c i):ShapeP p e' e ok w A n c (i+1):=⟨h.o,fun j h1 h2=>h.r j (by omega) h2⟩
theorem ShapeP.below (hb:Below w.heap.size w w1)(h:ShapeP p e' e ok w A n c i):ShapeP p e' e ok w1 A n c i:=⟨h.o.below hb,fun j h1 h2=>by
  obtain⟨ad,pre,B,m,c2,a,b,d,e,q⟩:=h.r j h1 h2
  exact⟨ad,pre,B,m,c2,a,cells_below b hb,d,e.below hb,q⟩⟩
theorem ShapeP.wr {ok':Nat→Prop}(h:ShapeP p e' e ok w A n c i)(hw:SpoilO (· =e) ok' w w1)(hne:e'≠e):ShapeP p e' e ok w1 A n c i:=⟨h.o.spoil hw,fun j h1 h2=>by
  obtain⟨ad,pre,B,m,c2,a,b,d,k,q⟩:=h.r j h1 h2
  obtain⟨g,cs,e1,_,hb,_⟩:=h.o.at (by omega)
  obtain rfl:ad=⟨g,0,none⟩:=by rw[a]at e1; injection e1
  exact⟨_,pre,B,m,c2,a,cellsAt_blk (hw.other hb hne) (blk_cellsAt b hb),d,k.spoil hw,q⟩⟩
theorem ShapeP.put (h:ShapeP p e' e ok w A n c (i+1)){g:Nat}{cs:Array Value}{vs:List Value}(hvs:vs.length=p+1)(hA:A=some ⟨g,0,none⟩)(hgk:ok g)(hb:RX.Blk w g e' cs)(hg:w.grownBy w1 (some g))(hb1:RX.Blk w1 g e' (setAll cs (i*(p+1)) vs)):
    WroteO e' ok w w1∧ShapeP p e' e ok w1 A n c (i+1):=by
  have hw:WroteO e' ok w w1:=⟨some g,hg,fun k hk=>by
    injection hk with hk
    subst hk
    exact⟨hgk,cs,_,hb,hb1,setAll_size _ _ _⟩⟩
  have hs:SpoilO (· =e') ok w w1:=SpoilO.of_wrote hw rfl
  refine⟨hw,h.o.spoil hs,fun j h1 h2=>?_⟩
  obtain⟨ad,pre,B,m,c2,a,b,d,k,hq⟩:=h.r j h1 h2
  obtain rfl:ad=⟨g,0,none⟩:=by rw[hA]at a; injection a with a; exact a.symm
  refine⟨_,pre,B,m,c2,hA,cellsAt_blk hb1 fun q u hu=>?_,d,k.spoil hs,hq⟩
  have h3:(i+1)*(p+1)≤j*(p+1):=Nat.mul_le_mul_right _ h1
  rw[Nat.succ_mul]at h3
  rw[setAll_out _ _ _ _ (by omega)]
  exact blk_cellsAt b hb q u hu
end
theorem XL_putP {P:Program}{N:Nat}{ops:Array Oper}{qs:QS}{rest:List Oper}{o:Oper}{l:Slots}{w:World}{t:TypeId}{pp x:Operand}(ho:o.op=.store t pp x)(hdn:o.dst=none)(hg:gd ops l o=some true)
    {p e' e:Nat} {ok:Nat→Prop} {A:Option Addr} {n c i:Nat} {ad:Addr} {v:Value} (h:ShapeP p e' e ok w A n c (i+1)) (hi0:i<n) (hA:A=some ad) (hp:evs l [pp,x]=some [.pointer (some (ad.add (i*(p+1)))),v])
    (vs:List Value) (hv:v.cells.toList=vs∧sizeP P t=some vs.length) (hvs:vs.length=p+1) (h1:vs.all (·.oneCell')=true)
    (hn:∀ w1,WroteO e' ok w w1→ShapeP p e' e ok w1 A n c (i+1)→XL P N ops rest qs l w1):XL P N ops (o::rest) qs l w:=by
  obtain⟨g,cs,hA2,h2,hb,hs⟩:=h.o.at (by omega)
  obtain rfl:ad=⟨g,0,none⟩:=by rw[hA]at hA2; injection hA2
  have hadd:(⟨g,0,none⟩:Addr).add (i*(p+1))=⟨g,i*(p+1),none⟩:=by unfold Addr.add; split<;>simp_all
  rw[hadd]at hp
  have h3:(i+1)*(p+1)≤n*(p+1):=Nat.mul_le_mul_right _ hi0
  rw[Nat.succ_mul]at h3
  refine XL_store ho hdn hg hp hb _ vs _ ⟨hv.1,rfl,hv.2⟩ ⟨rfl,h1⟩ (by omega) fun w1 h6 h7 _=>?_
  obtain⟨h8,h9⟩:=h.put hvs hA h2 hb h6 h7
  exact hn w1 h8 h9
theorem shapeP_cells {e' base:Nat}{w:World}{A:Option Addr}{n c:Nat}{xs:List CellA}{ok:Nat→Prop}(h:kCell.R e' w base (OkFrom base) (.slice A n c) xs)(hm:∀ j,j<xs.length→(xs.getD j cell0).attrs.length≤50000000)(hok:∀ g,base≤g→g<w.heap.size→ok g):ShapeP 5 e' 57 ok w A n c 0:=by
  have hb:=Kd.R_bound h
  refine⟨LiesO.of_R (d:=kCell) hb fun k h1 _ h3=>hok k h1 h3,fun j _ hj=>?_⟩
  obtain⟨hn,hc⟩:=Kd.R_len h
  obtain⟨vss,hR,hl,hM⟩:=Kd.R_raw cell0 hb
  obtain⟨ad,cc,hA,hK,hcc⟩:=Kd.atC (Kd.R_C hR) [] (i:=(j:Int)) (by omega) (by omega)
  have hMj:=hM j (by omega)
  obtain⟨_,_,e1,rfl,_,_,rfl,rfl,_,_,rfl,⟨_,_,rfl,rfl,_,_,rfl,rfl,rfl⟩,v,rfl,hv⟩:=hMj
  obtain⟨B,c2,rfl⟩:=Kd.R_slice hv
  obtain rfl:cc=vss.getD (j:Int).toNat []:=hK.1
  have h9:CellsAt w (ad.add (j*6)) (vss.getD j []):=hcc
  rw[e1]at h9
  exact⟨ad,[_,_,_,_,_],B,_,c2,hA,h9,rfl,LiesO.of_R (d:=kAttr) hv fun k h1 _ h3=>hok k h1 h3,Nat.le_trans (hm j (by omega)) (by decide)⟩
end Go.Proofs.YtgphmfnkeolbcaaGreatDoor.RX
set_option linter.unusedVariables false
set_option linter.unusedSimpArgs false
set_option maxRecDepth 100000
namespace Go.Proofs.YtgphmfnkeolbcaaGreatDoor
open Go Go.RowKit Go.Proofs.YtgphmfnkeolbcaaGreatDoorW.PrintWords RX
theorem ent21 :Ent Tryz.prog 21:=ent_of Tryz.func21 (by kernel_rfl) rfl
theorem ent20 :Ent Tryz.prog 20:=ent_of Tryz.func20 (by kernel_rfl) rfl
theorem ent28 :Ent Tryz.prog 28:=ent_of Tryz.func28 (by kernel_rfl) rfl
theorem infoHc :(Tryz.prog.info? 51).map (fun i=>(i.zero,i.size,i.bytes))=some (some (.agg #[.int .i32 0,s0,i6 0,i6 0,s0,.slice none 0 0]),6,80):=by kernel_rfl
theorem five {pre:List Value}(h:pre.length=5):∃ a b c d e,pre=[a,b,c,d,e]:=by
 match pre,h with
 | [a,b,c,d,e],_=>exact⟨a,b,c,d,e,rfl⟩
set_option maxHeartbeats 2000000 in
theorem overCells_any (A:Option Addr)(n c:Nat)(ok:Nat→Prop)(w:World)(hok:∀ g,w.heap.size≤g→ok g)(hSh:ShapeP 5 51 57 ok w A n c 0)(hn:n≤1100000):Calls Tryz.prog 28 #[.slice A n c] w fun e w'=>e=.returned (.tuple #[])∧SpoilO (fun e_=>e_=57∨e_=51) ok w w':=by
 obtain⟨hnc,hcm,_⟩:=hSh.o
 refine en Tryz.func28 rfl 30 [(0,.slice A n c)] (fun R_ hR_=>?_)
 refine sq (sg (xe0 3 [(0,.slice A n c),(6,nv n),(7,i6 0)] ?_))
 refine nl (bk (X_loop (ι:=Nat) (fun i=>[(0,.slice A n c),(6,i6 (n:Int)),(7,i6 (i:Int))]) (fun i wl=>i≤n∧ShapeP 5 51 57 ok wl A n c i∧SpoilO (fun e_=>e_=57∨e_=51) ok w wl) (fun i=>n-i) 0 ⟨Nat.zero_le _,hSh,(SpoilO.refl (fun e_=>e_=57∨e_=51) ok w)⟩ (by kernel_rfl) ?_))
 rintro i wl ⟨hi,hSh1,hS1⟩
 refine sq (X_region ?_)
 by_cases c1:(i:Int)<(n:Int)
 ·refine xr1 1 [(8,.eq bT)] [(8,bT)] [] (dT c1) ?_
  refine nl (sq (ct (sk (sq (bk (sg (xr0 2 [(2,nv i)] [8] ?_)))))))
  refine nl (sg (xr0 2 [(10,.slice A n c),(11,nv i)] [] ?_))
  obtain⟨ad2,pre5,B6,m7,c8,a3,c4,p9,L10,m11⟩:=(hSh1).r i (Nat.le_refl _) (by omega)
  obtain⟨a12,a13,a14,a15,a16,rfl⟩:=five p9
  replace c4:CellsAt wl (ad2.add ((i:Int).toNat*6)) [a12,a13,a14,a15,a16,.slice B6 m7 c8]:=c4
  refine xr 3 [(12,.idx ad2),(14,.load (.slice B6 m7 c8))] [(14,.slice B6 m7 c8)] [10,11] [A=some ad2,(0:Int)≤(i:Int),(i:Int)<(n:Int),la 49 ((ad2.add ((i:Int).toNat*6)).add 5) (.slice B6 m7 c8) wl] ⟨a3,(by omega),(by omega),loads1 rfl (elem_cell c4 5 _ rfl),trivial⟩ ?_
  refine xc 27 ent27 [.slice B6 m7 c8] (over_any _ _ _ ok _ (fun g_ h_=>hok g_ (Nat.le_trans (hS1).size h_)) L10 m11) ?_
  rintro e w_17 ⟨rfl,s18⟩; refine⟨_,rfl,?_⟩
  have hSh19:=ShapeP.wr hSh1 s18 (by decide)
  have S20:=SpoilO.trans hS1 (SpoilO.imp s18 (fun _ h_=>.inl h_) (fun _ _ h_=>h_))
  refine nl (rg (xr0 3 [(16,.slice A n c),(17,nv i),(18,.agg #[.int .i32 111,sT (⟨#[111,118,101,114]⟩:ByteArray),i6 0,i6 0,s0,.slice none 0 0])] [2,14,15] ?_))
  obtain⟨ad21,a22⟩:∃ x_,A=some x_:=⟨_,a3⟩; have c23:True:=trivial
  refine xe 1 [(19,.idx ad21)] [(0,.slice A n c),(6,nv n),(7,nv i),(18,.agg #[.int .i32 111,sT (⟨#[111,118,101,114]⟩:ByteArray),i6 0,i6 0,s0,.slice none 0 0]),(19,.pointer (some (ad21.add ((i:Int).toNat*6))))] [A=some ad21,(0:Int)≤(i:Int),(i:Int)<(n:Int)] ⟨a22,(by omega),(by omega),trivial⟩ ?_
  refine XL_putP (i:=i) (v:=.agg #[.int .i32 111,sT (⟨#[111,118,101,114]⟩:ByteArray),i6 0,i6 0,s0,.slice none 0 0]) rfl rfl rfl (ShapeP.next hSh19) (by omega) a22 (by kernel_rfl) [.int .i32 111,sT (⟨#[111,118,101,114]⟩:ByteArray),i6 0,i6 0,s0,.slice none 0 0] ⟨by kernel_rfl,by kernel_rfl⟩ rfl (by kernel_rfl) (fun w24 w25 hSh26=>?_)
  have S27:=SpoilO.trans S20 (SpoilO.of_wrote w25 (.inr rfl))
  refine nl (rg (xr1 2 [(20,.eq (i6 ((i:Int)+1)))] [(7,i6 ((i:Int)+1))] [18,19] (w6 ((i:Int)+1)) ?_))
  refine nl ?_
  refine⟨(i+1),by kernel_rfl,?_,?_⟩
  ·exact⟨by omega,hSh26,S27⟩
  (try dsimp only); omega
 refine xr1 1 [(8,.eq bF)] [(8,bF)] [] (dF c1) ?_
 refine nl (sq (cf (X_exit (sg (xe0 2 [(3,.slice A n c)] ?_)))))
 refine nl (sg (xr0 1 [(4,i6 0)] [] ?_))
 refine nl (bk (X_loop (ι:=Nat×Option Addr×Nat×Nat) (fun⟨k,B3,m3,c3⟩=>[(3,.slice B3 m3 c3),(4,i6 (k:Int))]) (fun⟨k,B3,m3,c3⟩ wm=>k≤20∧m3=n+k∧LiesO 51 6 ok wm B3 m3 c3∧SpoilO (fun e_=>e_=57∨e_=51) ok w wm) (fun⟨k,B3,m3,c3⟩=>20-k) (0,A,n,c) ⟨Nat.zero_le _,rfl,(hSh1).o,hS1⟩ (by kernel_rfl) ?_))
 rintro⟨k,B3,m3,c3⟩ wm ⟨hk,hm3,hL2,hS2⟩
 refine sq (sg (xr0 1 [(22,nv k)] [] ?_))
 by_cases c28:(k:Int)<20
 ·refine xr1 1 [(23,.eq bT)] [(23,bT)] [22] (dT c28) ?_
  refine nl (ct (sk (sq (bk (rg (xw 3 [] [(26,.slice B3 m3 c3),(28,.slice (some ⟨wm.heap.size,0,none⟩) 1 1)] [3,23] (wm.alloc (.cells #[.int .i32 109,s0,i6 0,i6 0,s0,.slice none 0 0] 51)) [] trivial ?_))))))
  obtain⟨w29,w33,b30,k31,z32⟩:=new_world wm #[.int .i32 109,s0,i6 0,i6 0,s0,.slice none 0 0] 51
  rw[w33]
  rw[←w33]
  refine XL_appendLiesO rfl rfl rfl 51 (.agg #[.int .i32 0,s0,i6 0,i6 0,s0,.slice none 0 0]) 6 80 Tryz.underlying39 infoHc rfl (by decide) [.int .i32 109,s0,i6 0,i6 0,s0,.slice none 0 0] (by kernel_rfl) (by kernel_rfl) (by kernel_rfl) (fun g_ h_=>hok g_ (Nat.le_trans (hS2).size h_)) hL2 (by omega) (by omega) (fun A34 c35 w36 w37 L38=>?_)
  have S39:=SpoilO.trans hS2 (SpoilO.of_wrote w37 (.inr rfl))
  refine xe0 1 [(3,.slice A34 (m3+1) c35),(4,nv k)] ?_
  refine nl (rg (xr1 3 [(25,.eq (i6 ((k:Int)+1)))] [(4,i6 ((k:Int)+1))] [] (w6 ((k:Int)+1)) ?_))
  refine nl ?_
  refine⟨(k+1,A34,(m3+1),c35),by kernel_rfl,?_,?_⟩
  ·exact⟨by omega,by omega,L38,S39⟩
  (try dsimp only); omega
 refine xr1 1 [(23,.eq bF)] [(23,bF)] [22] (dF c28) ?_
 refine nl (cf (X_exit (ek [] (hR_ _ _ ?_))))
 exact⟨rfl,hS2⟩
def lgC :List CellA→Nat
 | []=>0
 | c::r=>(1+c.kind.size+10*c.attrs.length)+lgC r
theorem lgC_append :∀ xs ys:List CellA,lgC (xs++ys)=lgC xs+lgC ys
 | [],ys=>by simp[lgC]
 | c::r,ys=>by simp only[List.cons_append,lgC,lgC_append r ys]; omega
theorem lgC_take {cs:List CellA}{i:Nat}(h:i<cs.length):lgC (cs.take (i+1))=lgC (cs.take i)+(1+(cs.getD i cell0).kind.size+10*(cs.getD i cell0).attrs.length):=by rw[take_snocD cell0 cs i h,lgC_append]; simp[lgC]
theorem lgC_len :∀ cs:List CellA,cs.length≤lgC cs
 | []=>Nat.le_refl _
 | c::r=>by have:=lgC_len r; simp only[lgC,List.length_cons]; omega
theorem large9_any (A:Option Addr)(c:Nat)(cs:List CellA)(w:World)(hx:kCell.C w A cs.length cs)(hn:cs.length≤1048576)(hz:∀ i,i<cs.length→B.cellSz (cs.getD i cell0)):Rt 21 #[.slice A cs.length c] w (.bool (decide (20000<lgC cs))):=by
 have hpl:cs.length≤9223372036854775807:=hx.2.1
 refine en Tryz.func21 rfl 26 [(0,aL A cs c)] (fun R_ hR_=>?_)
 refine sg (xe0 1 [(0,aL A cs c)] ?_)
 refine nl (sg (xr0 1 [(3,i6 0)] [] ?_))
 refine nl (sq (sg (xr0 3 [(6,aL A cs c),(7,i6 (cs.length:Int)),(8,i6 0)] [0] ?_)))
 refine nl (bk (X_loop (ι:=Nat) (fun i=>[(3,i6 (lgC (cs.take i):Int)),(6,aL A cs c),(7,i6 (cs.length:Int)),(8,i6 (i:Int))]) (fun i wl=>i≤cs.length∧lgC (cs.take i)≤i*70000000∧Below w.heap.size w wl) (fun i=>cs.length-i) 0 ⟨Nat.zero_le _,Nat.le_refl _,(Below.refl _ _)⟩ (by kernel_rfl) ?_))
 rintro i wl ⟨hi,hsz,HB⟩
 have hzi:=fun(h_:i<cs.length)=>hz i h_
 have hlt:=fun(h_:i<cs.length)=>lgC_take h_
 refine sq (X_region ?_)
 by_cases c1:(i:Int)<(cs.length:Int)
 ·refine xr1 1 [(9,.eq bT)] [(9,bT)] [] (dT c1) ?_
  refine nl (sq (ct (sk (sq (bk (sq (X_region ?_)))))))
  obtain⟨ad2,B5,c6,a3,c4,l7,C8⟩:=Kd.atCell (Kd.C_below hx HB) (i:=(i:Int)) (by omega) (by omega)
  replace c4:CellsAt wl (ad2.add ((i:Int).toNat*6)) (c6L (cs.getD i cell0) (aL B5 (cs.getD i cell0).attrs c6)):=c4
  replace l7:(cs.getD i cell0).attrs.length≤c6:=l7
  replace C8:kAttr.C wl B5 ((cs.getD i cell0).attrs.length) (cs.getD i cell0).attrs:=C8
  refine xw 3 [(10,.idx ad2),(11,.load (.agg (c6A (cs.getD i cell0) (aL B5 (cs.getD i cell0).attrs c6))))] [(5,pw wl.heap.size 0),(11,.agg (c6A (cs.getD i cell0) (aL B5 (cs.getD i cell0).attrs c6)))] [9] (wl.alloc (.cells #[.int .i32 0,s0,i6 0,i6 0,s0,.slice none 0 0] 51)) [A=some ad2,(0:Int)≤(i:Int),(i:Int)<(cs.length:Int),la 51 (ad2.add ((i:Int).toNat*6)) (.agg (c6A (cs.getD i cell0) (aL B5 (cs.getD i cell0).attrs c6))) wl] ⟨a3,(by omega),(by omega),loadsE rfl rfl c4 0 ⟨by kernel_rfl,by kernel_rfl⟩,trivial⟩ ?_
  obtain⟨w9,w13,b10,k11,z12⟩:=new_world wl #[.int .i32 0,s0,i6 0,i6 0,s0,.slice none 0 0] 51
  rw[w13]
  refine xst (.agg (c6A (cs.getD i cell0) (aL B5 (cs.getD i cell0).attrs c6))) k11 0 (c6A (cs.getD i cell0) (aL B5 (cs.getD i cell0).attrs c6)) (fun w14 g15 k16 z17=>?_)
  refine nl (rg (xr0 2 [(12,i6 (lgC (cs.take i):Int)),(13,pw wl.heap.size 1)] [3,11] ?_))
  have hszi:=hzi (by omega)
  have hs1:=hszi.1
  have hs3:=hszi.2.2.1
  have hlg:=hlt (by omega)
  refine xr 10 [(14,.load (sT ((cs.getD i cell0).kind))),(16,.eq (i6 (1+(((cs.getD i cell0).kind).size:Int)))),(18,.load (aL B5 (cs.getD i cell0).attrs c6)),(20,.eq (i6 (10*((cs.getD i cell0).attrs.length:Int)))),(21,.eq (i6 ((1+(((cs.getD i cell0).kind).size:Int))+(10*((cs.getD i cell0).attrs.length:Int))))),(22,.eq (i6 (lgC (cs.take (i+1)):Int)))] [(3,i6 (lgC (cs.take (i+1)):Int))] [5,12,13] [_,_,_,_,_,i6 (IntKind.i64.wrap ((lgC (cs.take i):Int)+((1+(((cs.getD i cell0).kind).size:Int))+(10*((cs.getD i cell0).attrs.length:Int)))))=i6 (lgC (cs.take (i+1)):Int)] ⟨lc 9 k16 1,w6 (1+(((cs.getD i cell0).kind).size:Int)),lc 49 k16 5,w6 (10*((cs.getD i cell0).attrs.length:Int)),w6 ((1+(((cs.getD i cell0).kind).size:Int))+(10*((cs.getD i cell0).attrs.length:Int))),(by rw[show (lgC (cs.take i):Int)+((1+((cs.getD i cell0).kind.size:Int))+(10*((cs.getD i cell0).attrs.length:Int)))=(lgC (cs.take (i+1)):Int)from by omega]; exact wr_i64 (by omega) (by omega)),trivial⟩ ?_
  refine nl (rg (xr1 2 [(23,.eq (i6 ((i:Int)+1)))] [(8,i6 ((i:Int)+1))] [] (w6 ((i:Int)+1)) ?_))
  refine nl ?_
  refine⟨(i+1),by kernel_rfl,?_,?_⟩
  ·exact⟨by omega,by have h_:=hlt (by omega); omega,(bg (bt HB b10) g15 (HB).size)⟩
  (try dsimp only); omega
 refine xr1 1 [(9,.eq bF)] [(9,bF)] [] (dF c1) ?_
 refine nl (sq (cf (X_exit (sg (xe0 1 [(24,i6 (lgC (cs.take i):Int))] ?_)))))
 by_cases c18:(lgC (cs.take i):Int)>20000
 ·refine xe1 2 [(25,.eq bT)] [(2,bT)] (dT c18) ?_
  refine nl (X_ret (rj [bT] hR_ ?_))
  have hxi:cs.take i=cs:=List.take_of_length_le (by omega)
  rw[show decide (20000<lgC cs)=true from decide_eq_true (by rw[←hxi]; omega)]
  exact⟨rfl,HB⟩
 refine xe1 2 [(25,.eq bF)] [(2,bF)] (dF c18) ?_
 refine nl (X_ret (rj [bF] hR_ ?_))
 have hxi:cs.take i=cs:=List.take_of_length_le (by omega)
 rw[show decide (20000<lgC cs)=false from decide_eq_false (by rw[←hxi]; omega)]
 exact⟨rfl,HB⟩
def lc3 :List CellA:=[(⟨97,ByteArray.empty,0,0,ByteArray.empty,[]⟩:CellA),(⟨98,ByteArray.empty,0,0,ByteArray.empty,[]⟩:CellA),(⟨(-1),(⟨#[105,109,97,103,101]⟩:ByteArray),0,0,ByteArray.empty,[]⟩:CellA)]
def lo2 :List OpA:=[(⟨1,(⟨#[97,98]⟩:ByteArray),0,0,ByteArray.empty,0,[]⟩:OpA),(⟨2,(⟨#[105,109,97,103,101]⟩:ByteArray),0,0,ByteArray.empty,0,[]⟩:OpA)]
theorem lc3_of :(B.cOf lc3).2=0:=by kernel_rfl
theorem lc3_can :B.can (lc3.map B.opC)=lo2:=by kernel_rfl
theorem cz_lit {r:Int}{k:ByteArray}(h:k.size≤100):B.cellSz ⟨r,k,0,0,ByteArray.empty,[]⟩:=⟨Nat.le_trans h (by decide),Nat.zero_le _,Nat.zero_le _,fun i hi=>absurd hi (Nat.not_lt_zero _)⟩
theorem lc3_sz :∀ i,i<lc3.length→B.cellSz (lc3.getD i cell0):=by
 intro i hi
 match i,hi with
 | 0,_=>exact cz_lit (by decide)
 | 1,_=>exact cz_lit (by decide)
 | 2,_=>exact cz_lit (by decide)
 | k+3,h=>exact absurd h (by show ¬k+3<3; omega)
theorem cell_facts {cs:List CellA}(h:(B.cOf cs).2=0)(hn:cs.length≤500000)(hz:∀ i,i<cs.length→B.cellSz (cs.getD i cell0)):badE (B.can (cs.map B.opC))=0∧(B.can (cs.map B.opC)).length≤1100000∧(∀ i,i<(B.can (cs.map B.opC)).length→opSz ((B.can (cs.map B.opC)).getD i op0)):=by
 have hg:=B.cOf_ok h
 obtain⟨h1,h2⟩:=docSz hg hz
 have hl:(cs.map B.opC).length=cs.length:=List.length_map ..
 obtain⟨a,b,c,_⟩:=can_facts (xs:=cs.map B.opC) (by rw[B.doc_of hg (by omega)]) (by omega) h1 (by omega)
 exact⟨a,b,c⟩
theorem lives9_any (w:World)(hT:Tabs w)(es:List Addr)(hE:ErrsO w es):Rt 20 #[] w bT:=by
 obtain⟨hcb,hcn,hcz⟩:=cell_facts lc3_of (by decide) lc3_sz
 refine en Tryz.func20 rfl 26 [] (fun R_ hR_=>?_)
 refine sg (xe0 1 [] ?_)
 refine nl (sg (xwe 4 [] [(8,.slice (some ⟨w.heap.size,0,none⟩) 3 3)] (w.alloc (.cells #[.int .i32 97,s0,i6 0,i6 0,s0,.slice none 0 0,.int .i32 98,s0,i6 0,i6 0,s0,.slice none 0 0,.int .i32 (-1),sT (⟨#[105,109,97,103,101]⟩:ByteArray),i6 0,i6 0,s0,.slice none 0 0] 51)) [] trivial ?_))
 obtain⟨w1,w5,b2,k3,z4⟩:=new_world w #[.int .i32 97,s0,i6 0,i6 0,s0,.slice none 0 0,.int .i32 98,s0,i6 0,i6 0,s0,.slice none 0 0,.int .i32 (-1),sT (⟨#[105,109,97,103,101]⟩:ByteArray),i6 0,i6 0,s0,.slice none 0 0] 51
 rw[w5]
 have r6:=Kd.R_litB kCell (W:=w) (e:=51) (cs:=#[.int .i32 97,s0,i6 0,i6 0,s0,.slice none 0 0,.int .i32 98,s0,i6 0,i6 0,s0,.slice none 0 0,.int .i32 (-1),sT (⟨#[105,109,97,103,101]⟩:ByteArray),i6 0,i6 0,s0,.slice none 0 0]) [(⟨97,ByteArray.empty,0,0,ByteArray.empty,[]⟩:CellA),(⟨98,ByteArray.empty,0,0,ByteArray.empty,[]⟩:CellA),(⟨(-1),(⟨#[105,109,97,103,101]⟩:ByteArray),0,0,ByteArray.empty,[]⟩:CellA)] k3 (repsCells0 [(⟨97,ByteArray.empty,0,0,ByteArray.empty,[]⟩:CellA),(⟨98,ByteArray.empty,0,0,ByteArray.empty,[]⟩:CellA),(⟨(-1),(⟨#[105,109,97,103,101]⟩:ByteArray),0,0,ByteArray.empty,[]⟩:CellA)] (by intro x hx; simp only[List.mem_cons,List.not_mem_nil,or_false]at hx; rcases hx with rfl|rfl|rfl<;>rfl)) (Nat.le_of_ble_eq_true (by kernel_rfl))
 refine xc 22 ent22 [.slice (some ⟨w.heap.size,0,none⟩) 3 3] (c9of_any _ 3 lc3 _ (Kd.R_C r6) (Nat.le_of_ble_eq_true rfl) (Nat.le_of_ble_eq_true rfl) lc3_sz (hT.below b2) es (hE.below b2)) ?_
 rintro e w7 ⟨b11,⟨h0_12,d,A8,c9,rfl,d10⟩|⟨h0_12,rfl⟩⟩
 ·refine⟨_,rfl,?_⟩
  refine xe0 7 [(1,pw d 0),(2,i6 0),(3,.nilIface)] ?_
  refine nl (sg (xwe 11 [] [(19,bT),(20,pw d 0),(23,.slice (some ⟨w7.heap.size,0,none⟩) 2 2)] (w7.alloc (.cells #[i6 1,sT (⟨#[97,98]⟩:ByteArray),i6 0,i6 0,s0,i6 0,.slice none 0 0,i6 2,sT (⟨#[105,109,97,103,101]⟩:ByteArray),i6 0,i6 0,s0,i6 0,.slice none 0 0] 102)) [] trivial ?_))
  obtain⟨w_13,w17,b14,k15,z16⟩:=new_world w7 #[i6 1,sT (⟨#[97,98]⟩:ByteArray),i6 0,i6 0,s0,i6 0,.slice none 0 0,i6 2,sT (⟨#[105,109,97,103,101]⟩:ByteArray),i6 0,i6 0,s0,i6 0,.slice none 0 0] 102
  rw[w17]
  have r18:=Kd.R_litB kOp (W:=w7) (e:=102) (cs:=#[i6 1,sT (⟨#[97,98]⟩:ByteArray),i6 0,i6 0,s0,i6 0,.slice none 0 0,i6 2,sT (⟨#[105,109,97,103,101]⟩:ByteArray),i6 0,i6 0,s0,i6 0,.slice none 0 0]) [(⟨1,(⟨#[97,98]⟩:ByteArray),0,0,ByteArray.empty,0,[]⟩:OpA),(⟨2,(⟨#[105,109,97,103,101]⟩:ByteArray),0,0,ByteArray.empty,0,[]⟩:OpA)] k15 (repsOp0 [(⟨1,(⟨#[97,98]⟩:ByteArray),0,0,ByteArray.empty,0,[]⟩:OpA),(⟨2,(⟨#[105,109,97,103,101]⟩:ByteArray),0,0,ByteArray.empty,0,[]⟩:OpA)] (by intro x hx; simp only[List.mem_cons,List.not_mem_nil,or_false]at hx; rcases hx with rfl|rfl<;>rfl)) (Nat.le_of_ble_eq_true (by kernel_rfl))
  refine xc 31 ent31 [pw d 0,.slice (some ⟨w7.heap.size,0,none⟩) 2 2] (his_any d (B.can (lc3.map B.opC)) lo2 _ _ _ (d10.c.below b14) hcb hcn hcz (Kd.R_C r18)) ?_
  rintro e w19 ⟨rfl,b20⟩; refine⟨_,rfl,?_⟩
  rw[(opsEqP_iff _ _).2 lc3_can]
  refine xe0 2 [(0,bT)] ?_
  refine nl (X_ret (rj [bT] hR_ ?_))
  exact⟨rfl,(bt (bt (bt b2 b11) b14) b20)⟩
 exact absurd lc3_of h0_12
end Go.Proofs.YtgphmfnkeolbcaaGreatDoor
