import Derived.Test.YtgphmfnkeolbcaaGreatDoorT68
import Derived.Test.YtgphmfnkeolbcaaGreatDoorT51
import Derived.Test.YtgphmfnkeolbcaaGreatDoorP1
/- What lines.Each hands over: number, line, where its attributes lie. No condition. -/

set_option linter.unusedVariables false
set_option linter.unusedSimpArgs false
namespace Go.Proofs.YtgphmfnkeolbcaaGreatDoor
open Go Go.RowKit Go.Proofs.YtgphmfnkeolbcaaGreatDoorW.PrintWords RX
abbrev ElL :=Int×LineA×Option Addr×Nat
def elL0 :ElL:=(0,line0,none,0)
def elLV (x:ElL):Array Value:=#[.int .i64 x.1,.agg #[.int .i64 x.2.1.from_,.int .i64 x.2.1.len,.slice x.2.2.1 x.2.1.attrs.length x.2.2.2,.string x.2.1.text]]
def LPx (n0:Nat)(x:ElL)(W:World):Prop:=x.2.1.attrs.length≤100000000∧∃ wb:World,n0≤wb.heap.size∧x.2.1.attrs.length≤x.2.2.2∧kAttr.R 57 W wb.heap.size (OkFrom wb.heap.size) (.slice x.2.2.1 x.2.1.attrs.length x.2.2.2) x.2.1.attrs
def LOK (L:List LineA)(pre:List ElL):Prop:=pre.length≤L.length∧∀ t,t<pre.length→(pre.getD t elL0).1=(t:Int)∧(pre.getD t elL0).2.1=L.getD t line0
theorem LOK.nil (L:List LineA):LOK L []:=⟨Nat.zero_le _,fun t ht=>by simp at ht⟩
theorem LOK.snoc {L:List LineA}{pre:List ElL}{x:ElL}(h:LOK L pre)(hl:pre.length<L.length)(h1:x.1=(pre.length:Int))(h2:x.2.1=L.getD pre.length line0):LOK L (pre++[x]):=by
  refine⟨by rw[List.length_append,List.length_singleton]; exact hl,fun t ht=>?_⟩
  rw[List.length_append,List.length_singleton]at ht
  rcases Nat.lt_or_ge t pre.length with h3|h3
  · have e:(pre++[x]).getD t elL0=pre.getD t elL0:=by rw[List.getD_eq_getElem?_getD,List.getElem?_append_left h3,List.getD_eq_getElem?_getD]
    rw[e]; exact h.2 t h3
  · obtain rfl:t=pre.length:=by omega
    have e:(pre++[x]).getD pre.length elL0=x:=by simp[List.getD_eq_getElem?_getD]
    rw[e]; exact⟨h1,h2⟩
theorem LOK.last {L:List LineA}{pre:List ElL}{x:ElL}(h:LOK L (pre++[x])):pre.length<L.length∧x.1=(pre.length:Int)∧x.2.1=L.getD pre.length line0:=by
  have h1:=h.1
  rw[List.length_append,List.length_singleton]at h1
  have h2:=h.2 pre.length (by simp)
  have e:(pre++[x]).getD pre.length elL0=x:=by simp[List.getD_eq_getElem?_getD]
  rw[e]at h2
  exact⟨h1,h2.1,h2.2⟩
theorem ownFrom_lpx {B n0:Nat}:OwnFrom B (fun x W=>LPx n0 x W):=by
  rintro x W W' row ⟨hq,wb,h1,h2,h3⟩ hg hr
  exact⟨hq,wb,h1,h2,RX.ownFrom_R (β:=Unit) (B:=B) kAttr 57 wb.heap.size (fun _=>.slice x.2.2.1 x.2.1.attrs.length x.2.2.2) (fun _=>x.2.1.attrs) () W W' row h3 hg hr⟩
theorem LPx.below {n0:Nat}{x:ElL}{W W':World}(hb:Below W.heap.size W W')(h:LPx n0 x W):LPx n0 x W':=by
  obtain⟨hq,wb,h1,h2,h3⟩:=h
  exact⟨hq,wb,h1,h2,Kd.R_below h3 hb⟩
theorem lnOf_att {xs:List OpA}(hz:∀ i,i<xs.length→opSz (xs.getD i op0)):∀ l∈lnOf xs,l.attrs.length≤100000000:=by
  have key:∀ cs:List CellA,(∀ c∈cs,c.attrs.length≤100000000)→∀ l∈(lnRun cs).1,l.attrs.length≤100000000:=by
    refine B.snoc_ind (fun _ l hl=>by cases hl) ?_
    intro cs c ih h l hl
    by_cases hc:c.rune=10
    · rw[lnRun_nl hc]at hl
      rcases List.mem_append.1 hl with hl|hl
      · exact ih (fun x hx=>h x (List.mem_append_left _ hx)) l hl
      · rw[List.mem_singleton.1 hl]; exact h c (by simp)
    · rw[lnRun_tx hc]at hl
      exact ih (fun x hx=>h x (List.mem_append_left _ hx)) l hl
  unfold lnOf
  split
  · refine key _ fun c hc=>?_
    obtain⟨o,ho,hc⟩:=List.mem_flatMap.1 hc
    have h1:opSz o:=by
      obtain⟨i,hi,rfl⟩:=List.getElem_of_mem ho
      have h1:=hz i hi
      rwa [List.getD_eq_getElem?_getD,List.getElem?_eq_getElem hi]at h1
    obtain⟨j,hj,rfl⟩:=List.getElem_of_mem hc
    have h2:=cellsP_len h1 hj
    rwa [List.getD_eq_getElem?_getD,List.getElem?_eq_getElem hj]at h2
  · intro l hl; cases hl
set_option maxRecDepth 100000
theorem ent42 :Ent Tryz.prog 42:=ent_of Tryz.func42 (by kernel_rfl) rfl
theorem ent109 :Ent Tryz.prog 109:=ent_of Tryz.func109 (by kernel_rfl) rfl
theorem leach_any (d:Nat)(xs:List OpA)(w:World)(hd:DeltaC w d xs)(hb:badE xs=0)(hB:sB xs≤B.L)(hn:xs.length≤1100000)(hz:∀ i,i<xs.length→opSz (xs.getD i op0))(hL:(cellsAll xs).length≤100000000)(hT:Tabs w)(es:List Addr)(hE:ErrsL w es):Calls Tryz.prog 42 #[pw d 0] w fun e w'=>∃ g A' c' ls,ls=lnOf xs∧e=.returned (.func (.func 109) #[] #[pw g 0])∧w.heap.size≤g∧RX.Blk w' g 66 #[.slice A' ls.length c']∧kLine.R 78 w' w.heap.size (OkFrom w.heap.size) (.slice A' ls.length c') ls∧Below w.heap.size w w':=by
 refine en Tryz.func42 rfl 13 [(0,pw d 0)] (fun R_ hR_=>?_)
 refine sg (xe0 1 [(0,pw d 0)] ?_)
 refine nl (sg (xe0 1 [(6,pw d 0)] ?_))
 refine xc 36 ent36 [pw d 0] (lines_any d xs _ hd hb hB hn hz hL hT es hE) ?_
 rintro e w7 ⟨A1,c2,ls3,el4,rfl,l5,r6,b8⟩; refine⟨_,rfl,?_⟩
 refine xwe 4 [] [(3,pw w7.heap.size 0),(8,aL A1 ls3 c2),(9,errV es (lnErr xs))] (w7.alloc (.cells #[.slice none 0 0] 66)) [] trivial ?_
 obtain⟨w9,w13,b10,k11,z12⟩:=new_world w7 #[.slice none 0 0] 66
 rw[w13]
 refine xst (aL A1 ls3 c2) k11 0 #[aL A1 ls3 c2] (fun w14 g15 k16 z17=>?_)
 have r18:=Kd.R_off (Kd.R_below r6 b10) k11 (by decide) g15
 refine xr0 1 [(4,errV es (lnErr xs))] [8,9] ?_
 refine nl (sq (sg (xr0 1 [(10,errV es (lnErr xs))] [4] ?_)))
 by_cases c19:(lnErr xs)=0
 ·rw[show errV es (lnErr xs)=.nilIface from by rw[c19]; rfl]
  refine xr0 1 [(11,bF)] [10] ?_
  refine nl (cf (sk (sg (xe0 2 [(2,.func (.func 109) #[] #[pw w7.heap.size 0])] ?_))))
  refine nl (X_ret (rj [.func (.func 109) #[] #[pw w7.heap.size 0]] hR_ ?_))
  exact⟨_,_,_,ls3,el4,rfl,(b8).size,k16,Kd.R_low r18 (Nat.le_refl _),(bg (bt b8 b10) g15 (b8).size)⟩
 rw[errV_pos es (lnErr xs) (Nat.pos_of_ne_zero c19)]
 refine xr0 1 [(11,bT)] [10] ?_
 refine nl (ct (rg (xst (.slice none 0 0) k16 0 #[.slice none 0 0] (fun w20 g21 k22 z23=>?_))))
 refine nl (sg (xe0 2 [(2,.func (.func 109) #[] #[pw w7.heap.size 0])] ?_))
 refine nl (X_ret (rj [.func (.func 109) #[] #[pw w7.heap.size 0]] hR_ ?_))
 have B25:Below w.heap.size w w20:=(bg (bg (bt b8 b10) g15 (b8).size) g21 (b8).size)
 have hf_:lnOf xs=[]:=if_neg c19
 exact⟨_,none,0,[],hf_.symm,rfl,(b8).size,k22,Kd.R_nil _ _ _ _ _,B25⟩
set_option maxHeartbeats 1000000 in
theorem leach_seq (D okD:Nat→Prop)(b0 g:Nat)(A:Option Addr)(c:Nat)(ls:List LineA)(w1:World)(hx:kLine.R 78 w1 b0 okD (.slice A ls.length c) ls)(hokD:∀ k,okD k→D k)(hD:∀ k,D k→k<w1.heap.size)(hol:ls.length≤1000000000)(hat:∀ l∈ls,l.attrs.length≤100000000)(hk:RX.Blk w1 g 66 #[.slice A ls.length c]):
  SeqM D Tryz.prog 109 #[pw g 0] elLV (fun ys=>LOK ls ys∧ys.length=ls.length) (fun pre=>LOK ls pre) (LPx w1.heap.size) ls.length w1:=by
 intro lp J Jx M0 W hW hJ hJx hMb hY jJ0
 have hJb:∀ s M (X Y:World),Below X.heap.size X Y→J s M X→J s M Y:=fun s M X Y hb hj=>abides_below (hJ M) hb hj
 refine callsIn_wide.2 ?_
 rw[show (#[Value.func (.yield lp) #[] #[]]++#[pw g 0]:Array Value)=#[.func (.yield lp) #[] #[],pw g 0]from rfl]
 refine en Tryz.func109 rfl 22 [(0,.func (.yield lp) #[] #[]),(1,pw g 0)] (fun R_ hR_=>?_)
 refine sg (xe1 3 [(5,.load (aL A ls c))] [(0,.func (.yield lp) #[] #[]),(5,aL A ls c),(6,i6 (ls.length:Int)),(7,i6 0)] (lc 66 (Blk.below hk hW) 0) ?_)
 refine nl (bk (X_loop (ι:=Nat×List ElL×(Nat→Prop)) (fun⟨i,pre,M⟩=>[(0,.func (.yield lp) #[] #[]),(5,aL A ls c),(6,i6 (ls.length:Int)),(7,i6 (i:Int))]) (fun⟨i,pre,M⟩ wl=>i≤ls.length∧pre.length=i∧LOK ls pre∧J pre M wl∧kLine.R 78 wl b0 okD (aL A ls c) ls∧w1.heap.size≤wl.heap.size) (fun⟨i,pre,M⟩=>ls.length-i) (0,[],M0) ⟨by omega,rfl,LOK.nil _,jJ0,(Kd.R_below hx hW),(hW).size⟩ (by kernel_rfl) ?_))
 rintro⟨i,pre,M⟩ wl ⟨hi_,hpn,hpok,hJ1,hr1,hhi1⟩
 have hat_:=fun(h_:i<ls.length)=>hat (ls.getD i line0) (getD_mem line0 h_)
 refine sq (X_region ?_)
 by_cases c1:(i:Int)<(ls.length:Int)
 ·refine xr1 1 [(8,.eq bT)] [(8,bT)] [] (dT c1) ?_
  refine nl (sq (ct (sk (sq (bk (sg (xr0 1 [(9,nv i)] [8] ?_)))))))
  obtain⟨ad2,B5,c6,a3,c4,l7,C8⟩:=RX.Kd.atLine (Kd.R_C hr1) (i:=(i:Int)) (by omega) (by omega)
  replace c4:CellsAt wl (ad2.add ((i:Int).toNat*4)) [i6 ((ls.getD i line0).from_),i6 ((ls.getD i line0).len),.slice B5 ((ls.getD i line0).attrs.length) c6,sT ((ls.getD i line0).text)]:=c4
  replace l7:(ls.getD i line0).attrs.length≤c6:=l7
  replace C8:kAttr.C wl B5 ((ls.getD i line0).attrs.length) (ls.getD i line0).attrs:=C8
  refine xw 3 [(10,.idx ad2),(11,.load (.agg #[i6 ((ls.getD i line0).from_),i6 ((ls.getD i line0).len),.slice B5 ((ls.getD i line0).attrs.length) c6,sT ((ls.getD i line0).text)]))] [(4,pw wl.heap.size 0),(11,.agg #[i6 ((ls.getD i line0).from_),i6 ((ls.getD i line0).len),.slice B5 ((ls.getD i line0).attrs.length) c6,sT ((ls.getD i line0).text)])] [] (wl.alloc (.cells #[i6 0,i6 0,.slice none 0 0,s0] 78)) [A=some ad2,(0:Int)≤(i:Int),(i:Int)<(ls.length:Int),la 78 (ad2.add ((i:Int).toNat*4)) (.agg #[i6 ((ls.getD i line0).from_),i6 ((ls.getD i line0).len),.slice B5 ((ls.getD i line0).attrs.length) c6,sT ((ls.getD i line0).text)]) wl] ⟨a3,(by omega),(by omega),loadsE rfl rfl c4 0 ⟨by kernel_rfl,by kernel_rfl⟩,trivial⟩ ?_
  obtain⟨w9,w13,b10,k11,z12⟩:=new_world wl #[i6 0,i6 0,.slice none 0 0,s0] 78
  rw[w13]
  refine xr0 1 [(3,nv i)] [9] ?_
  refine xst (.agg #[i6 ((ls.getD i line0).from_),i6 ((ls.getD i line0).len),.slice B5 ((ls.getD i line0).attrs.length) c6,sT ((ls.getD i line0).text)]) k11 0 #[i6 ((ls.getD i line0).from_),i6 ((ls.getD i line0).len),.slice B5 ((ls.getD i line0).attrs.length) c6,sT ((ls.getD i line0).text)] (fun w14 g15 k16 z17=>?_)
  refine nl (sq (X_region ?_))
  have hat2_:=hat_ (by omega)
  refine xr1 2 [(13,.load (aL B5 (ls.getD i line0).attrs c6))] [(13,aL B5 (ls.getD i line0).attrs c6)] [11] (lc 49 k16 2) ?_
  refine xc 110 ent110 [aL B5 (ls.getD i line0).attrs c6] (clone_any _ _ ((ls.getD i line0).attrs) _ (Kd.C_below C8 (bg b10 g15 (Nat.le_refl _))) hat2_) ?_
  rintro e w22 ⟨A18,c19,rfl,l20,r21,b23⟩; refine⟨_,rfl,?_⟩
  refine xe0 1 [(0,.func (.yield lp) #[] #[]),(3,nv i),(4,pw wl.heap.size 0),(5,aL A ls c),(6,i6 (ls.length:Int)),(7,nv i),(14,aL A18 (ls.getD i line0).attrs c19),(15,pw wl.heap.size 2)] ?_
  refine xst (aL A18 (ls.getD i line0).attrs c19) (Blk.below k16 b23) 2 #[i6 ((ls.getD i line0).from_),i6 ((ls.getD i line0).len),.slice A18 ((ls.getD i line0).attrs.length) c19,sT ((ls.getD i line0).text)] (fun w24 g25 k26 z27=>?_)
  have r28:=Kd.R_off r21 (Blk.below k16 b23) (by decide) g25
  refine nl (sq (X_regionI ?_))
  refine XLI_pre 3 (by kernel_rfl) (fun _ _ h_=>h_) ?_
  refine xr 3 [(18,.load (.agg #[i6 ((ls.getD i line0).from_),i6 ((ls.getD i line0).len),.slice A18 ((ls.getD i line0).attrs.length) c19,sT ((ls.getD i line0).text)]))] [(16,.func (.yield lp) #[] #[]),(17,nv i),(18,.agg #[i6 ((ls.getD i line0).from_),i6 ((ls.getD i line0).len),.slice A18 ((ls.getD i line0).attrs.length) c19,sT ((ls.getD i line0).text)])] [3,4,14,15] [la 78 (⟨wl.heap.size,0,none⟩) (.agg #[i6 ((ls.getD i line0).from_),i6 ((ls.getD i line0).len),.slice A18 ((ls.getD i line0).attrs.length) c19,sT ((ls.getD i line0).text)]) w24] ⟨loadsB rfl rfl k26 0 ⟨by kernel_rfl,by kernel_rfl⟩,trivial⟩ ?_
  refine nl ?_
  have B30:Below wl.heap.size wl w24:=(bg (bt (bg b10 g15 (Nat.le_refl _)) b23) g25 (Nat.le_refl _))
  have hjw_:=(hJb _ _ _ _ B30 hJ1)
  have hrw_:=Kd.R_below hr1 B30
  have hwl_:wl.heap.size≤w24.heap.size:=(B30).size
  have hpok3_:=hpok.snoc (x:=((i:Int),(ls.getD i line0),A18,c19)) (by omega) (by rw[hpn]) (by rw[hpn])
  refine XLI_yield rfl rfl rfl rfl [i6 (i:Int),.agg #[i6 ((ls.getD i line0).from_),i6 ((ls.getD i line0).len),.slice A18 ((ls.getD i line0).attrs.length) c19,sT ((ls.getD i line0).text)]] (by kernel_rfl) (hY pre M ((i:Int),(ls.getD i line0),A18,c19) _ hjw_ ⟨hat2_,_,Nat.le_trans hhi1 ((bg b10 g15 (Nat.le_refl _))).size,l20,r28⟩ (by omega)) ?_
  rintro e w29 (⟨rfl,M3_,hJ3_,hK3_,hM3_⟩|⟨rfl,hJ3_⟩)
  ·refine⟨_,rfl,?_⟩
   have hpn3_:(pre++[((i:Int),(ls.getD i line0),A18,c19)]).length=i+1:=by rw[List.length_append,List.length_singleton,hpn]
   have hr3_:=hK3_.rowD hrw_ hokD
   have hhi3_:w1.heap.size≤w29.heap.size:=by have:=hK3_.size; omega
   refine XLI_of (by kernel_rfl) (fun _ _ h_=>h_) ?_
   refine xr0 1 [(20,bF)] [16,17,18,19] ?_
   refine nl (cf (sk (rg (xr1 2 [(21,.eq (i6 ((i:Int)+1)))] [(7,i6 ((i:Int)+1))] [20] (w6 ((i:Int)+1)) ?_))))
   refine nl ?_
   refine⟨(i+1,(pre++[((i:Int),(ls.getD i line0),A18,c19)]),M3_),by kernel_rfl,?_,?_⟩
   ·exact⟨by omega,hpn3_,hpok3_,hJ3_,hr3_,hhi3_⟩
   (try dsimp only); omega
  refine⟨_,rfl,?_⟩
  refine XLI_of (by kernel_rfl) (fun _ _ h_=>h_) ?_
  refine xr0 1 [(20,bT)] [16,17,18,19] ?_
  refine nl (ct (X_ret (rj [] hR_ ?_)))
  exact⟨⟨_,rfl⟩,.inr ⟨_,hpok3_,hJ3_⟩⟩
 refine xr1 1 [(8,.eq bF)] [(8,bF)] [] (dF c1) ?_
 refine nl (sq (cf (X_exit (ek [] (hR_ _ _ ?_)))))
 exact⟨⟨_,rfl⟩,.inl ⟨pre,M,⟨hpok,by omega⟩,hJ1⟩⟩
end Go.Proofs.YtgphmfnkeolbcaaGreatDoor

set_option linter.unusedVariables false
set_option linter.unusedSimpArgs false
namespace Go.Proofs.YtgphmfnkeolbcaaGreatDoor.RX
open Go Go.RowKit Go.Proofs.YtgphmfnkeolbcaaGreatDoor Go.Proofs.YtgphmfnkeolbcaaGreatDoorW.PrintWords
theorem runs_slice_lh {P:Program}{l:Slots}{t e ty:TypeId}{sz:Nat}{x lo hi:Operand}{A:Option Addr}{n c:Nat}{k k':IntKind}{i j:Int}{w:World}(ht:RX.elemOf P t=some e)(hs:sizeP P e=some sz)(hx:ev l x=some (.slice A n c))(hl:ev l lo=some (.int k i))(hh:ev l hi=some (.int k' j))(h0:0≤i)(h1:i≤j)(h2:j≤c):
    RunsAs P l (.slice t x (some lo) (some hi) none) ty (.slice (if c=i.toNat then A else A.map (·.add (i.toNat*sz))) (j.toNat-i.toNat) (c-i.toNat)) w:=by
  intro o ho _
  have e1:evD l x=.slice A n c:=by rw[evD,hx]; rfl
  have e2:evD l lo=.int k i:=by rw[evD,hl]; rfl
  have e3:evD l hi=.int k' j:=by rw[evD,hh]; rfl
  have hu:P.underlying t=some (.slice e):=by
    unfold RX.elemOf at ht
    split at ht
    · rename_i e' h'; rw[h']; simpa using ht
    · cases ht
  have hu2:P.underlying t=some (.slice (P.elem t)):=by rw[hu]; simp[Program.elem,hu]
  obtain⟨inf,hinf,hsz⟩:=Option.map_eq_some_iff.1 hs
  have he:P.elem t=e:=by simp[Program.elem,hu]
  unfold execOp
  simp only[ho,e1,e2,e3,Option.map_none,Option.map_some,Sem.run_bind]
  rw[run_sliceAt_slice _ _ _ _ _ _ hu2,run_slice_lh _ _ _ _ _ hu2 _ _ _ _ h0 h1 h2]
  simp[he,sizeOf,typeInfo,hinf,hsz,sliced]
theorem Kd.C_lh {α:Type}{d:Kd α}{w:World}{A:Option Addr}{n cap:Nat}{xs:List α}(h:d.C w A n xs){i j:Nat}(hij:i≤j)(hj:j≤n)(hc:n≤cap):d.C w (if cap=i then A else A.map (·.add (i*d.sz))) (j-i) ((xs.take j).drop i):=
  Kd.C_drop (Kd.C_take h hj) hij (Nat.le_trans hj hc)
end Go.Proofs.YtgphmfnkeolbcaaGreatDoor.RX

set_option linter.unusedVariables false
set_option linter.unusedSimpArgs false
set_option maxRecDepth 100000
namespace Go.Proofs.YtgphmfnkeolbcaaGreatDoor
open Go Go.RowKit Go.Proofs.YtgphmfnkeolbcaaGreatDoorW.PrintWords RX
theorem ent170 :Ent Tryz.prog 170:=ent_of Tryz.func170 (by kernel_rfl) rfl
theorem ent166 :Ent Tryz.prog 166:=ent_of Tryz.func166 (by kernel_rfl) rfl
theorem ent113 :Ent Tryz.prog 113:=ent_of Tryz.func113 (by kernel_rfl) rfl
theorem ent111 :Ent Tryz.prog 111:=ent_of Tryz.func111 (by kernel_rfl) rfl
theorem r4copied_any (A:Option Addr)(c:Nat)(xs:List At)(w:World)(hx:kAttr.C w A xs.length xs)(hn:xs.length≤100000000):Calls Tryz.prog 170 #[.slice A xs.length c] w fun e w'=>∃ A' c',e=.returned (.slice A' xs.length c')∧xs.length≤c'∧kAttr.R 57 w' w.heap.size (OkFrom w.heap.size) (.slice A' xs.length c') xs∧Below w.heap.size w w':=by
 have hpl:xs.length≤9223372036854775807:=hx.2.1
 refine en Tryz.func170 rfl 6 [(0,aL A xs c)] (fun R_ hR_=>?_)
 refine sg (xe0 1 [(0,aL A xs c)] ?_)
 refine nl (sg (xw 1 [] [(3,.slice (some ⟨w.heap.size,0,none⟩) 0 0)] [] (w.alloc (.cells #[] 57)) [] trivial ?_))
 obtain⟨w_1,w5,b2,k3,z4⟩:=new_world w #[] 57
 rw[w5]
 refine xr0 1 [(4,aL A xs c)] [0] ?_
 have r6:=Kd.R_litB kAttr (W:=w) (e:=57) (cs:=#[]) [] k3 (repsAttr []) (Nat.le_of_ble_eq_true (by kernel_rfl))
 refine XL_appendAll (c':=c) kAttr rfl rfl rfl w.heap.size 57 (.agg #[s0,i6 0,i6 0,s0]) 48 Tryz.underlying49 info57 rfl (by decide) (by omega) ([]) xs (by kernel_rfl) r6 (Kd.C_below hx b2) kAttr_KM (b2).size (by first|omega|(simp; omega)) ?_
 intro A7 c8 w9 r10 hc11 g12 l13 a14
 have e15:([]++xs)=xs:=List.nil_append _
 rw[e15]at r10 ⊢
 refine xe0 1 [(2,aL A7 xs c8)] ?_
 refine nl (X_ret (rj [aL A7 xs c8] hR_ ?_))
 exact⟨_,_,rfl,(RX.Kd.R_len r10).2,Kd.R_low r10 (Nat.le_refl _),(bgo b2 g12 l13 (Nat.le_refl _))⟩
theorem r4same_any (a b:OpA)(A B:Option Addr)(c d:Nat)(w:World)(hA:kAttr.C w A a.attrs.length a.attrs)(hB:kAttr.C w B b.attrs.length b.attrs):Rt 166 #[.agg (o7A a (.slice A a.attrs.length c)),.agg (o7A b (.slice B b.attrs.length d))] w (.bool (opEqP a b)):=by
 refine en Tryz.func166 rfl 38 [(0,.agg (o7A a (aL A a.attrs c))),(1,.agg (o7A b (aL B b.attrs d)))] (fun R_ hR_=>?_)
 refine sg (xwe 1 [] [(1,.agg (o7A b (aL B b.attrs d))),(2,pw w.heap.size 0)] (w.alloc (.cells (o7A a (aL A a.attrs c)) 102)) [] trivial ?_)
 obtain⟨w_1,w5,b2,k3,z4⟩:=new_world w (o7A a (aL A a.attrs c)) 102
 rw[w5]
 refine xw 1 [] [(3,pw w_1.heap.size 0)] [1] (w_1.alloc (.cells (o7A b (aL B b.attrs d)) 102)) [] trivial ?_
 obtain⟨w_6,w10,b7,k8,z9⟩:=new_world w_1 (o7A b (aL B b.attrs d)) 102
 rw[w10]
 refine xr0 1 [] [] ?_
 refine nl (sg (xr 4 [(6,.load (i6 a.kind)),(8,.load (i6 b.kind))] [(6,i6 a.kind),(8,i6 b.kind)] [] [_,_] ⟨lc 3 (Blk.below k3 b7) 0,lc 3 k8 0,trivial⟩ ?_))
 by_cases c11:a.kind=b.kind
 ·refine xr 6 [(9,.eq bT),(12,.load (sT a.text)),(14,.load (sT b.text))] [(10,bT),(12,sT a.text),(14,sT b.text)] [6,8] [_,_,_] ⟨bE c11,lc 9 (Blk.below k3 b7) 1,lc 9 k8 1,trivial⟩ ?_
  by_cases c12:a.text=b.text
  ·refine xr 7 [(15,.eq bT),(19,.load (.agg #[i6 a.vk,i6 a.vn,sT a.vt])),(21,.load (.agg #[i6 b.vk,i6 b.vn,sT b.vt]))] [(17,bT),(19,.agg #[i6 a.vk,i6 a.vn,sT a.vt]),(21,.agg #[i6 b.vk,i6 b.vn,sT b.vt])] [10,12,14] [Value.bool (a.text.toList==b.text.toList)=bT,la 48 (⟨w.heap.size,2,none⟩) (.agg #[i6 a.vk,i6 a.vn,sT a.vt]) w_6,la 48 (⟨w_1.heap.size,2,none⟩) (.agg #[i6 b.vk,i6 b.vn,sT b.vt]) w_6] ⟨congrArg Value.bool (strEqT (c12)),loadsB rfl rfl (Blk.below k3 b7) 2 ⟨by kernel_rfl,by kernel_rfl⟩,loadsB rfl rfl k8 2 ⟨by kernel_rfl,by kernel_rfl⟩,trivial⟩ ?_
   by_cases c13:(a.vk,a.vn,a.vt)=(b.vk,b.vn,b.vt)
   ·refine xe 7 [(22,.as bT),(26,.load (i6 a.count)),(28,.load (i6 b.count))] [(2,pw w.heap.size 0),(3,pw w_1.heap.size 0),(24,bT),(26,i6 a.count),(28,i6 b.count)] [RunsAs Tryz.prog [(19,.agg #[i6 a.vk,i6 a.vn,sT a.vt]),(21,.agg #[i6 b.vk,i6 b.vn,sT b.vt])] (Go.Op.binOp Go.BinOp.eql 48 (Go.Operand.tmp 19) (Go.Operand.tmp 21) 48) 4 bT w_6,_,_] ⟨runs_bin rfl rfl (run_eqGuard_agg _ _ _ _ _ _ _ (by kernel_rfl)) (by have h:=plain_eqb (a.vk,a.vn,a.vt) (b.vk,b.vn,b.vt) w_6; rw[show ple (a.vk,a.vn,a.vt) (b.vk,b.vn,b.vt)=true from(ple_iff _ _).2 c13]at h; exact h),lc 3 (Blk.below k3 b7) 5,lc 3 k8 5,trivial⟩ ?_
    by_cases c14:a.count=b.count
    ·refine xe 7 [(29,.eq bT),(33,.load (aL A a.attrs c)),(35,.load (aL B b.attrs d))] [(31,bT),(33,aL A a.attrs c),(35,aL B b.attrs d)] [_,_,_] ⟨bE c14,lc 49 (Blk.below k3 b7) 6,lc 49 k8 6,trivial⟩ ?_
     refine xc 66 ent66 [.slice A a.attrs.length c,aL B b.attrs d] (sattrs_any _ _ _ _ a.attrs b.attrs _ (Kd.C_below hA (bt b2 b7)) (Kd.C_below hB (bt b2 b7))) ?_
     rintro e w15 ⟨rfl,b16⟩; refine⟨_,rfl,?_⟩
     refine xe0 2 [(4,.bool (decide (a.attrs=b.attrs)))] ?_
     refine nl (X_ret (rj [.bool (decide (a.attrs=b.attrs))] hR_ ?_))
     rw[show opEqP a b=decide (a.attrs=b.attrs)from by unfold opEqP; simp_all]
     exact⟨rfl,(bt (bt b2 b7) b16)⟩
    refine xe1 10 [(29,.eq bF)] [(4,bF)] (bN c14) ?_
    refine nl (X_ret (rj [bF] hR_ ?_))
    rw[show opEqP a b=false from by unfold opEqP; simp_all]
    exact⟨rfl,(bt b2 b7)⟩
   refine xe 17 [(22,.as bF)] [(4,bF)] [RunsAs Tryz.prog [(19,.agg #[i6 a.vk,i6 a.vn,sT a.vt]),(21,.agg #[i6 b.vk,i6 b.vn,sT b.vt])] (Go.Op.binOp Go.BinOp.eql 48 (Go.Operand.tmp 19) (Go.Operand.tmp 21) 48) 4 bF w_6] ⟨runs_bin rfl rfl (run_eqGuard_agg _ _ _ _ _ _ _ (by kernel_rfl)) (by have h:=plain_eqb (a.vk,a.vn,a.vt) (b.vk,b.vn,b.vt) w_6; rw[show ple (a.vk,a.vn,a.vt) (b.vk,b.vn,b.vt)=false from Bool.eq_false_iff.2 (fun k=>c13 ((ple_iff _ _).1 k))]at h; exact h),trivial⟩ ?_
   refine nl (X_ret (rj [bF] hR_ ?_))
   rw[show opEqP a b=false from by unfold opEqP; simp_all]
   exact⟨rfl,(bt b2 b7)⟩
  refine xe 24 [(15,.eq bF)] [(4,bF)] [Value.bool (a.text.toList==b.text.toList)=bF] ⟨congrArg Value.bool (strEqF (c12)),trivial⟩ ?_
  refine nl (X_ret (rj [bF] hR_ ?_))
  rw[show opEqP a b=false from by unfold opEqP; simp_all]
  exact⟨rfl,(bt b2 b7)⟩
 refine xe1 30 [(9,.eq bF)] [(4,bF)] (bN c11) ?_
 refine nl (X_ret (rj [bF] hR_ ?_))
 rw[show opEqP a b=false from by unfold opEqP; simp_all]
 exact⟨rfl,(bt b2 b7)⟩
theorem sameOps_any (A B:Option Addr)(c d:Nat)(xs ys:List OpA)(w:World)(hx:kOp.C w A xs.length xs)(hy:kOp.C w B ys.length ys):Rt 111 #[.slice A xs.length c,.slice B ys.length d] w (.bool (opsEqP xs ys)):=by
 have hpl:xs.length≤9223372036854775807:=hx.2.1
 refine en Tryz.func111 rfl 29 [(0,aL A xs c),(1,aL B ys d)] (fun R_ hR_=>?_)
 refine sg (xe0 1 [(0,aL A xs c),(1,aL B ys d)] ?_)
 refine nl (sq (sg (xr0 4 [(8,i6 (xs.length:Int)),(10,i6 (ys.length:Int))] [] ?_)))
 by_cases c1:(xs.length:Int)=(ys.length:Int)
 ·refine xr1 1 [(11,.eq bF)] [(11,bF)] [8,10] (nF c1) ?_
  refine nl (cf (sk (sq (sg (xr0 3 [(13,i6 (xs.length:Int)),(14,i6 0)] [11] ?_)))))
  refine nl (bk (X_loop (ι:=Nat) (fun i=>[(0,aL A xs c),(1,aL B ys d),(13,i6 (xs.length:Int)),(14,i6 (i:Int))]) (fun i wl=>i≤xs.length∧xs.length=ys.length∧(∀ q,q<i→xs.getD q op0=ys.getD q op0)∧Below w.heap.size w wl) (fun i=>xs.length-i) 0 ⟨by omega,by omega,fun q hq=>by omega,(Below.refl _ _)⟩ (by kernel_rfl) ?_))
  rintro i wl ⟨hi,hlen,hq0,HB⟩
  refine sq (X_region ?_)
  by_cases c2:(i:Int)<(xs.length:Int)
  ·refine xr1 1 [(15,.eq bT)] [(15,bT)] [] (dT c2) ?_
   refine nl (sq (ct (sk (sq (bk (sg (xr0 2 [(5,nv i)] [15] ?_)))))))
   refine nl (sq (X_any [8] 10 (tf 0 10) (by kernel_rfl) (by kernel_rfl) (by kernel_rfl) (fun wd3 b4 h5=>?_)))
   refine XA_runC (fuel':=8) [0,1] [] [.slice A xs.length c,i6 (i:Int)] (tf 2 8) [(17,aL A xs c),(18,nv i)] [] [] trivial ?_
   obtain⟨ad6,B9,c10,a7,hc8,l11,C12⟩:=Kd.atOp (Kd.C_below hx (bt HB b4)) (i:=(i:Int)) (by omega) (by omega)
   replace hc8:CellsAt wd3 (ad6.add ((i:Int).toNat*7)) (o7L (xs.getD i op0) (aL B9 (xs.getD i op0).attrs c10)):=hc8
   replace l11:(xs.getD i op0).attrs.length≤c10:=l11
   replace C12:kAttr.C wd3 B9 ((xs.getD i op0).attrs.length) (xs.getD i op0).attrs:=C12
   refine XA_runC (fuel':=4) [2,3,4,5] [(19,.idx ad6),(20,.load (.agg (o7A (xs.getD i op0) (aL B9 (xs.getD i op0).attrs c10))))] [.pointer (some (ad6.add ((i:Int).toNat*7))),.agg (o7A (xs.getD i op0) (aL B9 (xs.getD i op0).attrs c10)),.slice B ys.length d,i6 (i:Int)] (tf 6 4) [(20,.agg (o7A (xs.getD i op0) (aL B9 (xs.getD i op0).attrs c10))),(21,aL B ys d),(22,nv i)] [5,17,18] [A=some ad6,(0:Int)≤(i:Int),(i:Int)<(xs.length:Int),la 102 (ad6.add ((i:Int).toNat*7)) (.agg (o7A (xs.getD i op0) (aL B9 (xs.getD i op0).attrs c10))) wd3] ⟨a7,(by omega),(by omega),loadsE rfl rfl hc8 0 ⟨by kernel_rfl,by kernel_rfl⟩,trivial⟩ ?_
   obtain⟨ad13,B16,c17,a14,c15,l18,C19⟩:=Kd.atOp (Kd.C_below hy (bt HB b4)) (i:=(i:Int)) (by omega) (by omega)
   replace c15:CellsAt wd3 (ad13.add ((i:Int).toNat*7)) (o7L (ys.getD i op0) (aL B16 (ys.getD i op0).attrs c17)):=c15
   replace l18:(ys.getD i op0).attrs.length≤c17:=l18
   replace C19:kAttr.C wd3 B16 ((ys.getD i op0).attrs.length) (ys.getD i op0).attrs:=C19
   refine XA_runC (fuel':=2) [6,7] [(23,.idx ad13),(24,.load (.agg (o7A (ys.getD i op0) (aL B16 (ys.getD i op0).attrs c17))))] [.pointer (some (ad13.add ((i:Int).toNat*7))),.agg (o7A (ys.getD i op0) (aL B16 (ys.getD i op0).attrs c17))] (tf 8 2) [(24,.agg (o7A (ys.getD i op0) (aL B16 (ys.getD i op0).attrs c17)))] [21,22] [B=some ad13,(0:Int)≤(i:Int),(i:Int)<(ys.length:Int),la 102 (ad13.add ((i:Int).toNat*7)) (.agg (o7A (ys.getD i op0) (aL B16 (ys.getD i op0).attrs c17))) wd3] ⟨a14,(by omega),(by omega),loadsE rfl rfl c15 0 ⟨by kernel_rfl,by kernel_rfl⟩,trivial⟩ ?_
   refine XA_act (fuel':=1) 8 (tf 9 1) _ rfl (by kernel_rfl) rfl (by kernel_rfl) rfl ?_
   refine xc 166 ent166 [.agg (o7A (xs.getD i op0) (aL B9 (xs.getD i op0).attrs c10)),.agg (o7A (ys.getD i op0) (aL B16 (ys.getD i op0).attrs c17))] (r4same_any (xs.getD i op0) (ys.getD i op0) _ _ _ _ _ C12 C19) ?_
   rintro e w_20 ⟨rfl,b21⟩; refine⟨_,rfl,?_⟩
   refine nl (XA_pure (fuel':=0) [9] [] [.bool (opEqP (xs.getD i op0) (ys.getD i op0))] (tf 10 0) [(0,aL A xs c),(1,aL B ys d),(6,.bool (opEqP (xs.getD i op0) (ys.getD i op0))),(13,i6 (xs.length:Int)),(14,i6 (i:Int))] (fun w_=>[]) (fun w_=>trivial) ?_)
   refine XA_done (by kernel_rfl) ?_
   refine sg (xr0 1 [(26,.bool (opEqP (xs.getD i op0) (ys.getD i op0)))] [6] ?_)
   by_cases c22:opEqP (xs.getD i op0) (ys.getD i op0)=true
   ·rw[show (opEqP (xs.getD i op0) (ys.getD i op0):Bool)=true from by simpa using c22]
    refine xr0 1 [(27,bF)] [26] ?_
    refine nl (cf (sk (rg (xr1 2 [(28,.eq (i6 ((i:Int)+1)))] [(14,i6 ((i:Int)+1))] [27] (w6 ((i:Int)+1)) ?_))))
    refine nl ?_
    refine⟨(i+1),by kernel_rfl,?_,?_⟩
    ·exact⟨by omega,by omega,fun q hq=>by by_cases e_:q=i; (· subst e_; exact(opEqP_iff _ _).1 c22); (· exact hq0 q (by omega)),(bt (bt HB b4) b21)⟩
    (try dsimp only); omega
   rw[show (opEqP (xs.getD i op0) (ys.getD i op0):Bool)=false from by simpa using c22]
   refine xr0 1 [(27,bT)] [26] ?_
   refine nl (ct (sg (xe0 1 [(4,bF)] ?_)))
   refine nl (X_ret (rj [bF] hR_ ?_))
   rw[(opsEqP_false xs ys).2 (fun e_=>c22 ((opEqP_iff _ _).2 (by rw[e_])))]
   exact⟨rfl,(bt (bt HB b4) b21)⟩
  refine xr1 1 [(15,.eq bF)] [(15,bF)] [] (dF c2) ?_
  refine nl (sq (cf (X_exit (sg (xe0 1 [(4,bT)] ?_)))))
  refine nl (X_ret (rj [bT] hR_ ?_))
  rw[(opsEqP_iff xs ys).2 (ops_ext hlen (fun q hq=>hq0 q (by omega)))]
  exact⟨rfl,HB⟩
 refine xr1 1 [(11,.eq bT)] [(11,bT)] [8,10] (nT c1) ?_
 refine nl (ct (sg (xe0 1 [(4,bF)] ?_)))
 refine nl (X_ret (rj [bF] hR_ ?_))
 rw[(opsEqP_false xs ys).2 (fun e_=>by subst e_; omega)]
 exact⟨rfl,(Below.refl _ _)⟩
theorem scz_len (s:ByteArray):(U.scz s).length=(U.sc s).length:=List.length_map ..
theorem scz_rd (s:ByteArray)(i:Nat)(h:i<(U.sc s).length):rd (U.scz s) (i:Int)=(((U.sc s)[i]:Nat):Int):=by
 unfold rd U.scz
 rw[Int.toNat_natCast,List.getD_eq_getElem?_getD,List.getElem?_map,List.getElem?_eq_getElem h]; rfl
theorem rows_cell1 {w:World}{base:Nat}{x:CellA}{B:Option Addr}{c:Nat}{ok:Nat→Prop}(h:kAttrs.M w base ok x.attrs [.slice B x.attrs.length c]):Reps (kCell.M w base ok) 6 [x] (cellV x B c):=by
 have:=(Reps.none (kCell.M w base ok) 6).snoc (kCell_M h) rfl
 simpa using this
theorem R_lit1 {W0 W w1:World}{x:CellA}{B:Option Addr}{c:Nat}{cs:Array Value}(hcs:cs.toList=cellV x B c)(hr:kAttr.R 57 w1 W0.heap.size (OkFrom W0.heap.size) (.slice B x.attrs.length c) x.attrs)(hle:W0.heap.size≤W.heap.size)(hB:∀ k,B.map (·.block)=some k→k<W.heap.size)(hk:w1.heap[W.heap.size]?=some (.cells cs 51 (0,0))):
  kCell.R 51 w1 W0.heap.size (OkFrom W0.heap.size) (.slice (some ⟨W.heap.size,0,none⟩) 1 1) [x]:=by
 refine⟨fun k hk2=>?_,cs.toList,⟨by rw[hcs]; rfl,.inr ⟨W.heap.size,1,cs,rfl,hle,hk,Nat.le_refl _,by decide,by rw[←Array.length_toList,hcs]; rfl,List.take_of_length_le (by rw[hcs]; exact Nat.le_refl _)⟩⟩,?_⟩
 ·have:W.heap.size=k:=by simpa [Value.ownBlock] using hk2
  subst this
  exact hle
 rw[hcs]
 refine rows_cell1 (x:=x) ⟨_,rfl,?_⟩
 obtain⟨h0,inner,ho,hrr⟩:=hr
 refine⟨fun k hk3=>⟨h0 k hk3,fun e1=>?_⟩,inner,ho,hrr.imp_ (fun p q hp=>by rw[kAttr_K (kAttr.K_of_M hp)]; exact kAttr_M _ _ _ _)⟩
 have e2:k=W.heap.size:=by simpa [Value.ownBlock] using e1
 have:=hB k (by rw[←ownB (n:=x.attrs.length) (c:=c)]; exact hk3)
 omega
set_option maxHeartbeats 4000000 in
theorem r4cells_any (o:OpA)(A:Option Addr)(c:Nat)(w:World)(hA:kAttr.C w A o.attrs.length o.attrs)(hz:opSz o):Calls Tryz.prog 113 #[.agg (o7A o (.slice A o.attrs.length c))] w fun e w'=>∃ A' c',e=.returned (.slice A' (cellsP o).length c')∧kCell.R 51 w' w.heap.size (OkFrom w.heap.size) (.slice A' (cellsP o).length c') (cellsP o)∧Below w.heap.size w w':=by
 have hz1:=hz.b.1
 have hz3:=hz.2.2.1
 have hscl:=U.sc_le o.text
 have hszl:=scz_len o.text
 refine en Tryz.func113 rfl 37 [(0,.agg (o7A o (aL A o.attrs c)))] (fun R_ hR_=>?_)
 refine sg (xwe 1 [] [(1,pw w.heap.size 0)] (w.alloc (.cells (o7A o (aL A o.attrs c)) 102)) [] trivial ?_)
 obtain⟨w_1,w5,b2,k3,z4⟩:=new_world w (o7A o (aL A o.attrs c)) 102
 rw[w5]
 refine xr0 1 [] [] ?_
 refine nl (sq (sg (xr1 2 [(7,.load (i6 o.kind))] [(7,i6 o.kind)] [] (lc 3 k3 0) ?_)))
 by_cases c_6:o.kind=2
 ·refine xr1 1 [(8,.eq bT)] [(8,bT)] [7] (bE c_6) ?_
  refine nl (ct (sq (X_grow [] 10 (tf 0 10) (by kernel_rfl) (by kernel_rfl) (by kernel_rfl) (fun wd7 b8 h9=>?_))))
  refine XB_run (fuel':=4) (Below.refl _ _) [0,1,2,3,4,5] [(10,.load (sT o.text)),(12,.load (.agg #[i6 o.vk,i6 o.vn,sT o.vt])),(14,.load (aL A o.attrs c))] [pw w.heap.size 1,sT o.text,pw w.heap.size 2,.agg #[i6 o.vk,i6 o.vn,sT o.vt],pw w.heap.size 6,aL A o.attrs c] (tf 6 4) [(10,sT o.text),(12,.agg #[i6 o.vk,i6 o.vn,sT o.vt]),(14,aL A o.attrs c)] (fun w_=>[la 9 (⟨w.heap.size,1,none⟩) (sT o.text) w_,la 48 (⟨w.heap.size,2,none⟩) (.agg #[i6 o.vk,i6 o.vn,sT o.vt]) w_,la 49 (⟨w.heap.size,6,none⟩) (aL A o.attrs c) w_]) (fun w_ hC_=>⟨loads1 rfl (Blk.cell (Blk.below k3 (bt b8 hC_)) 1 _ rfl),loadsB rfl rfl (Blk.below k3 (bt b8 hC_)) 2 ⟨by kernel_rfl,by kernel_rfl⟩,loads1 rfl (Blk.cell (Blk.below k3 (bt b8 hC_)) 6 _ rfl),trivial⟩) ?_
  refine XB_mid (fuel':=3) 6 (tf 7 3) _ rfl (by kernel_rfl) (by kernel_rfl) rfl ?_
  refine xc 170 ent170 [aL A o.attrs c] (r4copied_any _ _ o.attrs _ (Kd.C_below hA (bt b2 b8)) (by omega)) ?_
  rintro e w12 ⟨A10,c11,rfl,l14,r15,b13⟩; refine⟨_,rfl,?_⟩
  refine nl ?_
  refine⟨b13,?_⟩
  refine XB_run (fuel':=2) b13 [7] [] [.agg #[.int .i32 (-1),sT o.text,i6 o.vk,i6 o.vn,sT o.vt,aL A10 o.attrs c11]] (tf 8 2) [(16,.agg #[.int .i32 (-1),sT o.text,i6 o.vk,i6 o.vn,sT o.vt,aL A10 o.attrs c11])] (fun w_=>[]) (fun w_ hC_=>trivial) ?_
  refine XB_mid (fuel':=1) 8 (tf 9 1) _ rfl (by kernel_rfl) (by kernel_rfl) rfl ?_
  refine xwe 1 [] [(17,.slice (some ⟨w12.heap.size,0,none⟩) 1 1)] (w12.alloc (.cells #[.int .i32 (-1),sT o.text,i6 o.vk,i6 o.vn,sT o.vt,aL A10 o.attrs c11] 51)) [] trivial ?_
  obtain⟨w16,w20,b17,k18,z19⟩:=new_world w12 #[.int .i32 (-1),sT o.text,i6 o.vk,i6 o.vn,sT o.vt,aL A10 o.attrs c11] 51
  rw[w20]
  refine nl ?_
  refine⟨(bt b13 b17),?_⟩
  refine XB_run (fuel':=0) (bt b13 b17) [9] [] [.slice (some ⟨w12.heap.size,0,none⟩) 1 1] (tf 10 0) [(2,.slice (some ⟨w12.heap.size,0,none⟩) 1 1)] (fun w_=>[]) (fun w_ hC_=>trivial) ?_
  refine XB_done (by kernel_rfl) ?_
  refine X_ret (rj [.slice (some ⟨w12.heap.size,0,none⟩) 1 1] hR_ ?_)
  rw[cellsP_2 c_6]
  exact⟨_,_,rfl,Kd.R_low (R_lit1 (x:=⟨-1,o.text,o.vk,o.vn,o.vt,o.attrs⟩) rfl (Kd.R_below r15 b17) (b13).size (RX.Kd.R_lt r15) k18) ((bt b2 b8)).size,(bt (bt (bt b2 b8) b13) b17)⟩
 refine xr1 1 [(8,.eq bF)] [(8,bF)] [7] (bN c_6) ?_
 refine nl (cf (sk (sg (xw 1 [] [(18,.slice (some ⟨w_1.heap.size,0,none⟩) 0 0)] [8] (w_1.alloc (.cells #[] 51)) [] trivial ?_))))
 obtain⟨w21,w25,b22,k23,z24⟩:=new_world w_1 #[] 51
 rw[w25]
 refine xr0 1 [(3,.slice (some ⟨w_1.heap.size,0,none⟩) 0 0)] [18] ?_
 refine nl (sq (sg (xe1 2 [(20,.load (sT o.text))] [(1,pw w.heap.size 0),(3,.slice (some ⟨w_1.heap.size,0,none⟩) 0 0),(20,sT o.text)] (lc 9 (Blk.below k3 b22) 1) ?_)))
 refine xc 130 ent130 [sT o.text] (rlist_any o.text _ (by omega)) ?_
 rintro e w30 ⟨A26,c27,rfl,l28,r29,b31⟩; refine⟨_,rfl,?_⟩
 refine xr0 2 [(21,aL A26 (U.scz o.text) c27),(22,i6 ((U.scz o.text).length:Int)),(23,i6 0)] [20] ?_
 refine nl (X_block ?_)
 have r32:=Kd.R_litB kCell (W:=w_1) (e:=51) (cs:=#[]) [] k23 (repsCell0) (Nat.le_of_ble_eq_true (by kernel_rfl))
 refine X_loop (ι:=Nat×Option Addr×Nat×List CellA) (fun⟨i,A6,c6,zs6⟩=>[(1,pw w.heap.size 0),(3,aL A6 zs6 c6),(21,aL A26 (U.scz o.text) c27),(22,i6 ((U.scz o.text).length:Int)),(23,i6 (i:Int))]) (fun⟨i,A6,c6,zs6⟩ wl=>i≤(U.sc o.text).length∧zs6=((U.sc o.text).take i).map (cellR o.attrs)∧kCell.R 51 wl w_1.heap.size (OkFrom w_1.heap.size) (aL A6 zs6 c6) zs6∧(Kd.int .i32).R 21 wl w21.heap.size (OkFrom w21.heap.size) (aL A26 (U.scz o.text) c27) (U.scz o.text)∧w21.heap.size≤wl.heap.size∧Below w_1.heap.size w_1 wl) (fun⟨i,A6,c6,zs6⟩=>(U.sc o.text).length-i) (0,(some ⟨w_1.heap.size,0,none⟩),0,[]) ⟨by omega,rfl,(Kd.R_below r32 b31),r29,(b31).size,(bt b22 b31)⟩ (by kernel_rfl) ?_
 rintro⟨i,A6,c6,zs6⟩ wl ⟨hi,he6,hr6,hq6,hle6,HB⟩
 have hzl:zs6.length=min i (U.sc o.text).length:=by rw[he6,List.length_map,List.length_take]
 refine sq (X_region ?_)
 by_cases c33:(i:Int)<((U.scz o.text).length:Int)
 ·refine xr1 1 [(24,.eq bT)] [(24,bT)] [] (dT c33) ?_
  refine nl (sq (ct (sk (sq (bk (sq (X_region ?_)))))))
  obtain⟨ad34,a35,c36⟩:=Kd.atI (Kd.R_C hq6) (i:=(i:Int)) (by omega) (by omega)
  refine xr 3 [(25,.idx ad34),(26,.load (.int .i32 (rd (U.scz o.text) (i:Int))))] [(5,.int .i32 (rd (U.scz o.text) (i:Int)))] [24] [A26=some ad34,(0:Int)≤(i:Int),(i:Int)<((U.scz o.text).length:Int),la 21 (ad34.add ((i:Int).toNat*1)) (.int .i32 (rd (U.scz o.text) (i:Int))) wl] ⟨a35,(by omega),(by omega),loads1 rfl (elem_cell c36 0 _ rfl),trivial⟩ ?_
  refine nl (rg (xr1 4 [(30,.load (aL A o.attrs c))] [(27,aL A6 zs6 c6),(28,.int .i32 (rd (U.scz o.text) (i:Int))),(30,aL A o.attrs c)] [3,5] (lc 49 (Blk.below k3 HB) 6) ?_))
  refine xc 170 ent170 [aL A o.attrs c] (r4copied_any _ _ o.attrs _ (Kd.C_below hA (bt b2 HB)) (by omega)) ?_
  rintro e w39 ⟨A37,c38,rfl,l41,r42,b40⟩; refine⟨_,rfl,?_⟩
  refine xw 2 [] [(33,.slice (some ⟨w39.heap.size,0,none⟩) 1 1)] [28,30,31] (w39.alloc (.cells #[.int .i32 (rd (U.scz o.text) (i:Int)),s0,i6 0,i6 0,s0,aL A37 o.attrs c38] 51)) [] trivial ?_
  obtain⟨w43,w47,b44,k45,z46⟩:=new_world w39 #[.int .i32 (rd (U.scz o.text) (i:Int)),s0,i6 0,i6 0,s0,aL A37 o.attrs c38] 51
  rw[w47]
  obtain⟨okp48,M49,hok50⟩:=Kd.M_rowApart r42 (HB).size (Kd.R_below hr6 b40) (by decide)
  rw[←w47]
  refine XL_append kCell rfl rfl rfl w_1.heap.size 51 (.agg #[.int .i32 0,s0,i6 0,i6 0,s0,.slice none 0 0]) 80 Tryz.underlying39 info51 rfl (by decide) (by omega) zs6 (⟨rd (U.scz o.text) (i:Int),ByteArray.empty,0,0,ByteArray.empty,o.attrs⟩:CellA) [.int .i32 (rd (U.scz o.text) (i:Int)),s0,i6 0,i6 0,s0,aL A37 o.attrs c38] okp48 (by kernel_rfl) (kCell_M (x:=(⟨rd (U.scz o.text) (i:Int),ByteArray.empty,0,0,ByteArray.empty,o.attrs⟩:CellA)) M49) hok50 (Kd.R_below hr6 b40) ((bt HB b40)).size (by first|omega|(simp; omega)) ?_
  intro A51 c52 w53 r54 c55 g56 l57 a58
  have r60:=Kd.R_apart (Kd.R_below hq6 b40) (Kd.R_below hr6 b40) (by decide) g56
  refine xr0 1 [(3,aL A51 (zs6++[(⟨rd (U.scz o.text) (i:Int),ByteArray.empty,0,0,ByteArray.empty,o.attrs⟩:CellA)]) c52)] [27,33,34] ?_
  refine nl (rg (xe1 2 [(35,.eq (i6 ((i:Int)+1)))] [(1,pw w.heap.size 0),(3,aL A51 (zs6++[(⟨rd (U.scz o.text) (i:Int),ByteArray.empty,0,0,ByteArray.empty,o.attrs⟩:CellA)]) c52),(21,aL A26 (U.scz o.text) c27),(22,i6 ((U.scz o.text).length:Int)),(23,i6 ((i:Int)+1))] (w6 ((i:Int)+1)) ?_))
  refine nl ?_
  have B61:Below w_1.heap.size w_1 w53:=(bgo (bt HB b40) g56 l57 (Nat.le_refl _))
  refine⟨(i+1,A51,c52,(zs6++[(⟨rd (U.scz o.text) (i:Int),ByteArray.empty,0,0,ByteArray.empty,o.attrs⟩:CellA)])),by kernel_rfl,?_,?_⟩
  ·have hlt:i<(U.sc o.text).length:=by omega
   exact⟨by omega,by rw[scz_rd o.text i hlt,he6]; exact cells_snoc o.text o.attrs i hlt,r54,r60,(Nat.le_trans hle6 (Nat.le_trans b40.size g56.size)),B61⟩
  (try dsimp only); omega
 refine xr1 1 [(24,.eq bF)] [(24,bF)] [] (dF c33) ?_
 refine nl (sq (cf (X_exit (sg (xe0 2 [(2,aL A6 zs6 c6)] ?_)))))
 refine nl (X_ret (rj [aL A6 zs6 c6] hR_ ?_))
 have hend:i=(U.sc o.text).length:=by omega
 rw[hend,List.take_length]at he6
 rw[show cellsP o=zs6 from by rw[he6]; exact if_neg c_6]
 exact⟨_,_,rfl,Kd.R_low hr6 (b2).size,(bt b2 HB)⟩
end Go.Proofs.YtgphmfnkeolbcaaGreatDoor
