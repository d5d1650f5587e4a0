import Derived.Test.YtlnnjfdonilgmaaGreatDoorK10
/- vellumlaw23.fixed. Conditions: the tables of utf8, the errors' variables. -/

set_option linter.unusedVariables false
set_option linter.unusedSimpArgs false
set_option maxRecDepth 100000
namespace Go.Proofs.YtlnnjfdonilgmaaGreatDoor
open Go Go.RowKit Go.Proofs.YtlnnjfdonilgmaaGreatDoorW.PrintWords RX
theorem ent7 :Ent Tryz.prog 7:=ent_of Tryz.func7 (by kernel_rfl) rfl

abbrev bAnn :ByteArray:=⟨#[97,110,110]⟩
abbrev bBob :ByteArray:=⟨#[98,111,98]⟩
abbrev bEve :ByteArray:=⟨#[101,118,101]⟩
abbrev fxA :MarkA:=(bAnn,2,2)
abbrev fxB :MarkA:=(bBob,2,4)
abbrev fxL :List MarkA:=[(bAnn,4,4),(bBob,2,6)]
def fxO :List OpA:=[⟨3,ByteArray.empty,0,0,ByteArray.empty,2,[]⟩,⟨1,⟨#[120,121]⟩,0,0,ByteArray.empty,0,[]⟩]
theorem nm_ann :nmOk bAnn:=⟨by decide,by decide,by kernel_rfl⟩
theorem nm_bob :nmOk bBob:=⟨by decide,by decide,by kernel_rfl⟩
theorem fx1 :sCode [] fxA 5=0:=sCode_0 nm_ann (by decide) (fun h=>by have:=h.2; simp at this)
theorem fx2 :sMs [] fxA 5=[fxA]:=sMs_put fx1
theorem fx3 :sCode [fxA] fxB 5=0:=sCode_0 nm_bob (by decide) (fun h=>by have:=h.2; simp at this)
theorem fx4 :sMs [fxA] fxB 5=[fxA,fxB]:=(sMs_put fx3).trans (by kernel_rfl)
theorem fxO_bad :badE fxO=0:=by kernel_rfl
theorem fxO_sums :sB fxO≤B.L∧sR fxO≤B.L:=by
 have h1:=U.sc_le ⟨#[120,121]⟩
 have e1:ByteArray.size ⟨#[120,121]⟩=2:=rfl
 refine⟨show sumI opB fxO≤1099511627776 from ?_,show sumI opR fxO≤1099511627776 from ?_⟩
 ·simp only[fxO,sumI,opB,opLen]; simp
 simp only[fxO,sumI,opR,opLen]; simp; omega
theorem fxO_can :Can fxO:=by
 have h:=(B.bOf_canOk (xs:=fxO) (by rw[B.bOf_of fxO_bad fxO_sums.1 fxO_sums.2])).1
 rwa [show B.can fxO=fxO from by kernel_rfl]at h
theorem fx_lit {t:ByteArray}{k n:Int}(h:t.size≤100):opSz ⟨k,t,0,0,ByteArray.empty,n,[]⟩:=⟨Nat.le_trans h (by decide),Nat.zero_le _,Nat.zero_le _,fun i hi=>absurd hi (Nat.not_lt_zero _)⟩
theorem fxO_sz :∀ i,i<fxO.length→opSz (fxO.getD i op0):=by
 intro i hi
 match i,hi with
 | 0,_=>exact fx_lit (by decide)
 | 1,_=>exact fx_lit (by decide)
 | k+2,h=>exact absurd h (by show ¬k+2<2; omega)
theorem fx_xy :(U.sc ⟨#[120,121]⟩).length=2:=by
 have h:=(U.text_utf (l:=[120,121]) (by intro r hr; simp only[List.mem_cons,List.not_mem_nil,or_false]at hr; rcases hr with rfl|rfl<;>exact⟨by decide,.inl (by decide)⟩)).2
 rw[show runesBytes [120,121]=⟨#[120,121]⟩from by kernel_rfl]at h
 simpa using congrArg List.length h
theorem fx_pel :fxO.map pelO=[(3,2),(1,2)]:=by
 show [pelO _,pelO _]=_
 unfold pelO
 simp only[fx_xy]
 rfl
theorem fx_pl {p q:Int}{b:Bool}(h0:¬(p<0∨1099511627776<p))(h:plOf p b [(3,2),(1,2)]=q)(h1:¬1099511627776<q):plE fxO p b=(q,0):=by
 unfold plE
 rw[if_neg h0,fx_pel,h,if_neg h1]
theorem fx_a :plE fxO 2 (bA fxA bAnn)=(4,0):=fx_pl (by decide) (by kernel_rfl) (by decide)
theorem fx_b1 :plE fxO 2 (bA fxB bAnn)=(2,0):=fx_pl (by decide) (by kernel_rfl) (by decide)
theorem fx_b2 :plE fxO 4 (bA fxB bAnn)=(6,0):=fx_pl (by decide) (by kernel_rfl) (by decide)
theorem fx_ok :∀ x∈[fxA,fxB],mvOk fxO bAnn x:=by
 intro x hx
 simp only[List.mem_cons,List.not_mem_nil,or_false]at hx
 rcases hx with rfl|rfl
 ·exact⟨congrArg Prod.snd fx_a,congrArg Prod.snd fx_a⟩
 exact⟨congrArg Prod.snd fx_b1,congrArg Prod.snd fx_b2⟩
theorem fx5 :mvE fxO bAnn [fxA,fxB]=0:=if_pos fx_ok
theorem fx6 :mvMs fxO bAnn [fxA,fxB]=fxL:=(if_pos fx_ok).trans (by
 show [(bAnn,(plE fxO 2 (bA fxA bAnn)).1,(plE fxO 2 (bA fxA bAnn)).1),(bBob,(plE fxO 2 (bA fxB bAnn)).1,(plE fxO 4 (bA fxB bAnn)).1)]=_
 rw[fx_a,fx_b1,fx_b2])
theorem fx7 :gMk fxL bAnn=(bAnn,4,4):=by kernel_rfl
theorem fx8 :gMk fxL bBob=(bBob,2,6):=by kernel_rfl
theorem fx9 :dCode fxL bAnn=0:=by kernel_rfl
theorem fx10 :dCode fxL bBob=0:=by kernel_rfl
theorem fx11 :dCode fxL bEve=16:=by kernel_rfl
theorem lof_can (A:Option Addr)(c:Nat)(xs:List OpA)(w:World)(hc:Can xs)(hx:kOp.C w A xs.length xs)(hxc:xs.length≤c)(hn:xs.length≤1100000)(hz:∀ i,i<xs.length→opSz (xs.getD i op0))(ht:B.txS xs≤50000000)(hT:Tabs w)(es:List Addr)(hE:ErrsM w es):
  Calls Tryz.prog 11 #[aL A xs c] w fun e w'=>∃ d A' c',e=.returned (pw d 0)∧DeltaR w' w.heap.size d A' c' xs∧Below w.heap.size w w':=
 (lof_any A c xs w hx hxc hn hz ht hT es hE).mono fun e w' ⟨hb,h⟩=>by
  rcases h with ⟨_,_,d,A',c',k1,k2⟩|⟨k1,_⟩
  ·exact⟨d,A',c',k1,k2,hb⟩
  exact absurd hc k1
set_option maxHeartbeats 2000000 in
theorem fixed23_any (wB:World)(hT:Tabs wB)(es:List Addr)(hE:ErrsM wB es):Calls Tryz.prog 7 #[] wB fun e w'=>e=.returned bT∧Below wB.heap.size wB w':=by
 refine en Tryz.func7 rfl 73 [] (fun R_ hR_=>?_)
 refine sg (xe0 1 [] ?_)
 refine nl (sg (xc 8 ent8 [] (MI.new _) ?_))
 rintro e w5 ⟨g1,Q2,rfl,M3,b4⟩; refine⟨_,rfl,?_⟩
 have M6:MI g1 wB.heap.size [] Q2 w5:=MI.low M3 (Nat.le_refl _)
 refine xe0 1 [(1,pw g1 0)] ?_
 refine nl (sg (xw 3 [] [(10,.slice (some ⟨w5.heap.size,0,none⟩) 2 2)] [] (w5.alloc (.cells #[i6 3,s0,i6 0,i6 0,s0,i6 2,.slice none 0 0,i6 1,sT (⟨#[120,121]⟩:ByteArray),i6 0,i6 0,s0,i6 0,.slice none 0 0] 70)) [] trivial ?_))
 obtain⟨w7,w11,b8,k9,z10⟩:=new_world w5 #[i6 3,s0,i6 0,i6 0,s0,i6 2,.slice none 0 0,i6 1,sT (⟨#[120,121]⟩:ByteArray),i6 0,i6 0,s0,i6 0,.slice none 0 0] 70
 rw[w11]
 have r12:=Kd.R_litB kOp (W:=w5) (e:=70) (cs:=#[i6 3,s0,i6 0,i6 0,s0,i6 2,.slice none 0 0,i6 1,sT (⟨#[120,121]⟩:ByteArray),i6 0,i6 0,s0,i6 0,.slice none 0 0]) [(⟨3,ByteArray.empty,0,0,ByteArray.empty,2,[]⟩:OpA),(⟨1,(⟨#[120,121]⟩:ByteArray),0,0,ByteArray.empty,0,[]⟩:OpA)] k9 (repsOp0 [(⟨3,ByteArray.empty,0,0,ByteArray.empty,2,[]⟩:OpA),(⟨1,(⟨#[120,121]⟩:ByteArray),0,0,ByteArray.empty,0,[]⟩:OpA)] (by intro x hx; simp only[List.mem_cons,List.not_mem_nil,or_false]at hx; rcases hx with rfl|rfl<;>rfl)) (Nat.le_of_ble_eq_true (by kernel_rfl))
 refine xc 11 ent11 [.slice (some ⟨w5.heap.size,0,none⟩) 2 2] (lof_can _ 2 fxO _ fxO_can (Kd.R_C r12) (Nat.le_of_ble_eq_true rfl) (Nat.le_of_ble_eq_true rfl) fxO_sz (Nat.le_of_ble_eq_true rfl) (hT.below (bt b4 b8)) es (hE.below (bt b4 b8))) ?_
 rintro e w13 ⟨d14,A15,c16,rfl,d17,b18⟩; refine⟨_,rfl,?_⟩
 refine xr0 1 [(2,pw d14 0)] [10,11] ?_
 refine nl (sq (sg (xr0 9 [(18,bF),(19,pw g1 0),(20,.agg #[sT (⟨#[97,110,110]⟩:ByteArray),i6 2,i6 2])] [] ?_)))
 have O24:=(M6.below (bt b8 b18))
 refine xc 15 ent15 [pw g1 0,.agg #[sT (⟨#[97,110,110]⟩:ByteArray),i6 2,i6 2],i6 5] (O24.set fxA 5 (by decide) (hT.below (bt (bt b4 b8) b18)) es (hE.below (bt (bt b4 b8) b18))) ?_
 rintro e w19 ⟨rfl,M20,C21⟩; refine⟨_,rfl,?_⟩
 have hlo25:Below wB.heap.size w13 w19:=C21.lo ((bt (bt b4 b8) b18)).size (fun g_ h_=>(O24.lt g_ h_).1)
 have k26:=C21.blk (Blk.below k9 b18) (fun h_=>absurd (M6.lt _ h_).2 (Nat.not_lt.2 (Nat.le_refl _)))
 have hno27:¬Q2 w5.heap.size:=(fun h_=>absurd (M6.lt _ h_).2 (Nat.not_lt.2 (Nat.le_refl _)))
 have D28:=DeltaR.far d17 C21 (fun k_ h_=>Nat.lt_of_lt_of_le (M6.lt k_ h_).2 (b8).size)
 rw[fx2]at M20
 rw[fx1,errV_zero]
 refine xr0 5 [(24,bF),(25,pw g1 0),(26,.agg #[sT (⟨#[98,111,98]⟩:ByteArray),i6 2,i6 4])] [18,19,20,21] ?_
 have B29:Below wB.heap.size wB w19:=(Below.trans (bt (bt b4 b8) b18) hlo25)
 have O35:=M20
 refine xc 15 ent15 [pw g1 0,.agg #[sT (⟨#[98,111,98]⟩:ByteArray),i6 2,i6 4],i6 5] (O35.set fxB 5 (by decide) (hT.below B29) es (hE.below B29)) ?_
 rintro e w30 ⟨rfl,M31,C32⟩; refine⟨_,rfl,?_⟩
 have hlo36:Below wB.heap.size w19 w30:=C32.lo (B29).size (fun g_ h_=>(O35.lt g_ h_).1)
 have k37:=C32.blk k26 hno27
 have hno38:¬Q2 w5.heap.size:=hno27
 have D39:=DeltaR.far D28 C32 (fun k_ h_=>Nat.lt_of_lt_of_le (M6.lt k_ h_).2 (b8).size)
 rw[fx4]at M31
 rw[fx3,errV_zero]
 refine xe0 5 [(1,pw g1 0),(30,bF),(31,pw g1 0),(32,pw d14 0)] ?_
 have O45:=M31
 refine xc 16 ent16 [pw g1 0,pw d14 0,sT (⟨#[97,110,110]⟩:ByteArray)] (O45.move d14 fxO bAnn (D39.c) fxO_bad (Nat.le_of_ble_eq_true rfl) fxO_sz (hT.below (Below.trans B29 hlo36)) es (hE.below (Below.trans B29 hlo36)) ((Below.trans B29 hlo36)).size) ?_
 rintro e w40 ⟨rfl,Q43,M41,N44,C42⟩; refine⟨_,rfl,?_⟩
 have hlo46:Below wB.heap.size w30 w40:=C42.lo ((Below.trans B29 hlo36)).size (fun g_ h_=>(O45.lt g_ h_).1)
 have hno48:¬Q43 w5.heap.size:=N44.no hno38 (Blk.lt k37)
 have D49:=DeltaR.far D39 C42 (fun k_ h_=>Nat.lt_of_lt_of_le (M6.lt k_ h_).2 (b8).size)
 rw[fx6]at M41
 rw[fx5,errV_zero]
 refine xe0 2 [(1,pw g1 0),(35,bF)] ?_
 refine nl (cf (sk (sg (xr0 1 [(37,pw g1 0)] [35] ?_))))
 have B50:Below wB.heap.size wB w40:=(Below.trans (Below.trans B29 hlo36) hlo46)
 refine xc 17 ent17 [pw g1 0,sT (⟨#[97,110,110]⟩:ByteArray)] (M41.get bAnn (by decide) (hT.below B50) es (hE.below B50)) ?_
 rintro e w51 ⟨rfl,b52⟩; refine⟨_,rfl,?_⟩
 rw[fx7,fx9,errV_zero]
 refine xw 4 [] [(3,pw w51.heap.size 0),(39,.agg #[sT bAnn,i6 4,i6 4]),(40,.nilIface)] [37,38] (w51.alloc (.cells #[s0,i6 0,i6 0] 31)) [] trivial ?_
 obtain⟨w53,w57,b54,k55,z56⟩:=new_world w51 #[s0,i6 0,i6 0] 31
 rw[w57]
 refine xst (.agg #[sT bAnn,i6 4,i6 4]) k55 0 #[sT bAnn,i6 4,i6 4] (fun w58 g59 k60 z61=>?_)
 refine xr0 1 [(4,.nilIface)] [39,40] ?_
 refine nl (sg (xr0 1 [(42,pw g1 0)] [] ?_))
 have B64:Below wB.heap.size wB w58:=(bg (bt (bt B50 b52) b54) g59 ((bt B50 b52)).size)
 refine xc 17 ent17 [pw g1 0,sT (⟨#[98,111,98]⟩:ByteArray)] ((M41.below (bg (bt b52 b54) g59 (b52).size)).get bBob (by decide) (hT.below B64) es (hE.below B64)) ?_
 rintro e w65 ⟨rfl,b66⟩; refine⟨_,rfl,?_⟩
 rw[fx8,fx10,errV_zero]
 refine xw 4 [] [(5,pw w65.heap.size 0),(44,.agg #[sT bBob,i6 2,i6 6]),(45,.nilIface)] [42,43] (w65.alloc (.cells #[s0,i6 0,i6 0] 31)) [] trivial ?_
 obtain⟨w67,w71,b68,k69,z70⟩:=new_world w65 #[s0,i6 0,i6 0] 31
 rw[w71]
 refine xst (.agg #[sT bBob,i6 2,i6 6]) k69 0 #[sT bBob,i6 2,i6 6] (fun w72 g73 k74 z75=>?_)
 refine xe0 1 [(1,pw g1 0),(3,pw w51.heap.size 0),(4,.nilIface),(5,pw w65.heap.size 0),(6,.nilIface)] ?_
 refine nl (sq (X_gen (S:=fun w_=>RX.Blk w_ w51.heap.size 31 #[sT bAnn,i6 4,i6 4]∧RX.Blk w_ w65.heap.size 31 #[sT bBob,i6 2,i6 6]∧w_.cell? (⟨0,0,none⟩)=some (.iface 208 (.pointer (some (errAt es 16))))) [] 28 (tf 0 28) (by kernel_rfl) (by kernel_rfl) (by kernel_rfl) (fun wd78 b79 h80=>?_)))
 have B81:Below w58.heap.size w58 wd78:=(bt (bg (bt b66 b68) g73 (b66).size) b79)
 have B82:Below wB.heap.size wB wd78:=(bt (bg (bt (bt B64 b66) b68) g73 ((bt B64 b66)).size) b79)
 refine XG_runC (fuel':=10) ⟨(Blk.below k60 B81),(Blk.below k74 b79),((B82.cell (World.block_lt_of_cell? _ _ (hE.load 16 0 (by decide) (by decide) rfl))).trans (hE.load 16 0 (by decide) (by decide) rfl))⟩ [0,1,2,3,4,5,6,7,8,9,10,11,12,13,14,15,16,17] [(53,.load (.agg #[sT bAnn,i6 4,i6 4])),(55,.as bT),(58,.load (.agg #[sT bBob,i6 2,i6 6])),(60,.as bT)] [.nilIface,bT,bT,.nilIface,bT,bT,bT,.agg #[sT bAnn,i6 4,i6 4],.agg #[sT (⟨#[97,110,110]⟩:ByteArray),i6 4,i6 4],bT,bT,bT,.agg #[sT bBob,i6 2,i6 6],.agg #[sT (⟨#[98,111,98]⟩:ByteArray),i6 2,i6 6],bT,bT,bT,pw g1 0] (tf 18 10) [(62,bT),(63,pw g1 0)] [3,4,5,6] (fun w_=>[la 31 (⟨w51.heap.size,0,none⟩) (.agg #[sT bAnn,i6 4,i6 4]) w_,RunsAs Tryz.prog [(53,.agg #[sT bAnn,i6 4,i6 4]),(54,.agg #[sT (⟨#[97,110,110]⟩:ByteArray),i6 4,i6 4])] (Go.Op.binOp Go.BinOp.eql 31 (Go.Operand.tmp 53) (Go.Operand.tmp 54) 31) 4 bT w_,la 31 (⟨w65.heap.size,0,none⟩) (.agg #[sT bBob,i6 2,i6 6]) w_,RunsAs Tryz.prog [(58,.agg #[sT bBob,i6 2,i6 6]),(59,.agg #[sT (⟨#[98,111,98]⟩:ByteArray),i6 2,i6 6])] (Go.Op.binOp Go.BinOp.eql 31 (Go.Operand.tmp 58) (Go.Operand.tmp 59) 31) 4 bT w_]) (fun w_ hC_=>⟨loadsB rfl rfl hC_.1 0 ⟨by kernel_rfl,by kernel_rfl⟩,runs_bin rfl rfl (run_eqGuard_agg _ _ _ _ _ _ _ (by kernel_rfl)) (mark_eqb (bAnn,4,4) _),loadsB rfl rfl hC_.2.1 0 ⟨by kernel_rfl,by kernel_rfl⟩,runs_bin rfl rfl (run_eqGuard_agg _ _ _ _ _ _ _ (by kernel_rfl)) (mark_eqb (bBob,2,6) _),trivial⟩) ?_
 refine XG_mid (fuel':=9) 18 (tf 19 9) _ rfl (by kernel_rfl) (by kernel_rfl) rfl ?_
 have B83:Below w40.heap.size w40 w65:=(bt (bg (bt b52 b54) g59 (b52).size) b66)
 have B84:Below w40.heap.size w40 wd78:=(bt (bg (bt (bt (bg (bt b52 b54) g59 (b52).size) b66) b68) g73 (B83).size) b79)
 refine xc 26 ent26 [pw g1 0] ((M41.below B84).len) ?_
 rintro e w85 ⟨rfl,b86⟩; refine⟨_,rfl,?_⟩
 refine nl ?_
 refine⟨⟨(Blk.below k60 (bt B81 b86)),(Blk.below k74 (bt b79 b86)),(((bt B82 b86).cell (World.block_lt_of_cell? _ _ (hE.load 16 0 (by decide) (by decide) rfl))).trans (hE.load 16 0 (by decide) (by decide) rfl))⟩,?_⟩
 refine XG_runC (fuel':=4) ⟨(Blk.below k60 (bt B81 b86)),(Blk.below k74 (bt b79 b86)),(((bt B82 b86).cell (World.block_lt_of_cell? _ _ (hE.load 16 0 (by decide) (by decide) rfl))).trans (hE.load 16 0 (by decide) (by decide) rfl))⟩ [19,20,21,22,24] [(70,.load (.iface 208 (.pointer (some (errAt es 16)))))] [bT,bT,bT,pw g1 0,.iface 208 (.pointer (some (errAt es 16)))] #[true,true,true,true,true,true,true,true,true,true,true,true,true,true,true,true,true,true,true,true,true,true,true,false,true,false,false,false] [(67,bT),(68,pw g1 0),(70,.iface 208 (.pointer (some (errAt es 16))))] [1,62,63,64] (fun w_=>[la 45 (⟨0,0,none⟩) (.iface 208 (.pointer (some (errAt es 16)))) w_]) (fun w_ hC_=>⟨loads1 rfl hC_.2.2,trivial⟩) ?_
 refine XG_mid (fuel':=3) 23 (tf 25 3) _ rfl (by kernel_rfl) (by kernel_rfl) rfl ?_
 have O92:=(M41.below (bt B84 b86))
 refine xc 25 ent25 [pw g1 0,sT (⟨#[101,118,101]⟩:ByteArray)] (O92.drop bEve (by decide) (hT.below (bt B82 b86)) es (hE.below (bt B82 b86))) ?_
 rintro e w87 ⟨rfl,M88,C89⟩; refine⟨_,rfl,?_⟩
 have hlo93:Below wB.heap.size w85 w87:=C89.lo ((bt B82 b86)).size (fun g_ h_=>(O92.lt g_ h_).1)
 have hno95:¬Q43 w5.heap.size:=hno48
 have k96:=C89.blk (Blk.below k60 (bt B81 b86)) (fun h_=>absurd (M41.lt _ h_).2 (Nat.not_lt.2 (b52).size))
 have hno97:¬Q43 w51.heap.size:=(fun h_=>absurd (M41.lt _ h_).2 (Nat.not_lt.2 (b52).size))
 have k98:=C89.blk (Blk.below k74 (bt b79 b86)) (fun h_=>absurd (M41.lt _ h_).2 (Nat.not_lt.2 (B83).size))
 have hno99:¬Q43 w65.heap.size:=(fun h_=>absurd (M41.lt _ h_).2 (Nat.not_lt.2 (B83).size))
 rw[fx11,errV_pos es 16 (by decide)]
 refine nl ?_
 refine⟨⟨k96,k98,(((Below.trans (bt B82 b86) hlo93).cell (World.block_lt_of_cell? _ _ (hE.load 16 0 (by decide) (by decide) rfl))).trans (hE.load 16 0 (by decide) (by decide) rfl))⟩,?_⟩
 refine XG_run (fuel':=0) ⟨k96,k98,(((Below.trans (bt B82 b86) hlo93).cell (World.block_lt_of_cell? _ _ (hE.load 16 0 (by decide) (by decide) rfl))).trans (hE.load 16 0 (by decide) (by decide) rfl))⟩ [25,26,27] [(71,.as bT)] [bT,bT,bT] (tf 28 0) [(0,bT)] (fun w_=>[RunsAs Tryz.prog [(69,.iface 208 (.pointer (some (errAt es 16)))),(70,.iface 208 (.pointer (some (errAt es 16))))] (Go.Op.binOp Go.BinOp.eql 45 (Go.Operand.tmp 69) (Go.Operand.tmp 70) 45) 4 bT w_]) (fun w_ hC_=>⟨runs_bin rfl rfl rfl (err_self es 16 _),trivial⟩) ?_
 refine XG_done (by kernel_rfl) ?_
 refine X_ret (rj [bT] hR_ ?_)
 exact⟨rfl,(Below.trans (bt B82 b86) hlo93)⟩
theorem bad_empty {ms:List MarkA}{n:Int}:sCode ms (ByteArray.empty,0,0) n=6:=sCode_6 (fun h=>absurd h.1 (by decide))
theorem nm_x :nmOk ⟨#[120]⟩:=⟨by decide,by decide,by kernel_rfl⟩
theorem bad_x {ms:List MarkA}:sCode ms (⟨#[120]⟩,6,0) 5=12:=sCode_12 nm_x (by decide)
theorem bad_ff {ms:List MarkA}(h:∀ x∈ms,nmOk x.1):¬mIn ms ⟨#[255]⟩:=fun⟨h1,h2⟩=>by
  have h3:=(h _ (getD_mem mark0 h1)).2.2
  rw[h2]at h3
  exact absurd h3 (by rw[show (uchk ⟨#[255]⟩).2=false from by kernel_rfl]; decide)
theorem nm_later :nmOk ⟨#[108,97,116,101,114]⟩:=⟨by decide,by decide,by kernel_rfl⟩
theorem ok_later :sCode [] (⟨#[108,97,116,101,114]⟩,0,0) 0=0:=sCode_0 nm_later (by decide) (fun h=>by have:=h.2; simp at this)
theorem drop_one {ms:List MarkA}{i:Nat}(h:i<ms.length):dCode (ms.drop i) (ms.getD i mark0).1=0∧dMs (ms.drop i) (ms.getD i mark0).1=ms.drop (i+1):=by
  rw[List.drop_eq_getElem_cons h,List.getD_eq_getElem?_getD,List.getElem?_eq_getElem h]
  have hin:mIn (ms[i]::ms.drop (i+1)) ms[i].1:=(min_no (by rw[kl_irrefl]; decide)).2 rfl
  refine⟨if_pos hin,(if_pos hin).trans ?_⟩
  show mDel (ms[i]::ms.drop (i+1)) ms[i].1=_
  rw[mDel,if_neg (by rw[kl_irrefl]; decide),if_pos rfl]
theorem mk_neq_of {x y:MarkA}(h:¬x=y)(w:World):(binOp .neq 31 (mV x) (mV y)).run Tryz.prog w=.ok (.bool true) w:=by
  have h1:=mark_eql x y w
  have h2:((x.1.toList==y.1.toList)&&((x.2.1==y.2.1)&&(x.2.2==y.2.2)))=false:=by
    rw[Bool.eq_false_iff]
    intro h3
    simp only[Bool.and_eq_true,beq_iff_eq]at h3
    exact h (Prod.ext (bytes_ext h3.1) (Prod.ext h3.2.1 h3.2.2))
  rw[h2]at h1
  show (binOp .neq 31 (.agg _) (.agg _)).run _ _=_
  rw[run_neq_struct]
  show ((Op.equalIn 10000 31 (mV x) (mV y)).run Tryz.prog w).andThen _=_
  rw[h1]; rfl
theorem mk_neq_eq {x y:MarkA}(h:x=y)(w:World):(binOp .neq 31 (mV x) (mV y)).run Tryz.prog w=.ok (.bool false) w:=by rw[h]; exact mark_neq y w
theorem take_last {ms pre:List MarkA}{x:MarkA}(h:pre++[x]=ms.take (pre++[x]).length):x=ms.getD pre.length mark0:=by
  have h1:=congrArg (fun l=>l.getD pre.length mark0) h
  simp only[List.getD_eq_getElem?_getD,List.length_append,List.length_singleton]at h1
  rw[List.getElem?_append_right (Nat.le_refl _),Nat.sub_self,List.getElem?_take_of_lt (Nat.lt_succ_self _)]at h1
  simpa [List.getD_eq_getElem?_getD] using h1
def MemI (wl:World)(g14 g13 g3 g9 g4 t:Nat)(A:Option Addr)(n c:Nat)(stop:Int)(pre:List MarkA)(M:Nat→Prop)(W:World):Prop:=
  RX.Blk W g14 3 #[.int .i64 (pre.length:Int)]∧RX.Blk W g13 3 #[.int .i64 (t:Int)]∧RX.Blk W g3 3 #[.int .i64 stop]∧RX.Blk W g9 27 #[.slice A n c]∧RX.Blk W g4 4 #[.bool false]∧M=(· =g14)∧Below wl.heap.size wl W
theorem MemI.own {wl:World}{g14 g13 g3 g9 g4 t:Nat}{A:Option Addr}{n c:Nat}{stop:Int}{B:Nat}(h:wl.heap.size≤B)(M:Nat→Prop):OwnFrom B (fun s W=>MemI wl g14 g13 g3 g9 g4 t A n c stop s M W):=by
  rintro s W W' row ⟨h1,h2,h3,h4,h5,h6,h7⟩ hg hr
  have b:=fun(g t:Nat) (cs:Array Value) (hb:RX.Blk W g t cs)=>RX.ownFrom_blk (β:=Unit) (B:=B) (fun _=>g) t (fun _=>cs) () W W' row hb hg hr
  exact⟨b _ _ _ h1,b _ _ _ h2,b _ _ _ h3,b _ _ _ h4,b _ _ _ h5,h6,RX.ownFrom_below' (β:=Unit) wl h () W W' row h7 hg hr⟩
def MemX (wl:World)(g14 g13 g3 g9 g4 t:Nat)(A:Option Addr)(n c:Nat)(stop:Int)(ms:List MarkA)(k:Code)(pre:List MarkA)(W:World):Prop:=
  (k=.ret∧¬(pre=ms.take pre.length∧pre.length≤ms.length))∨(k=.exit 6∧t=0∧(pre.length:Int)=stop∧∃ M,MemI wl g14 g13 g3 g9 g4 t A n c stop pre M W)
theorem MemX.own {wl:World}{g14 g13 g3 g9 g4 t:Nat}{A:Option Addr}{n c:Nat}{stop:Int}{ms:List MarkA}{B:Nat}(h:wl.heap.size≤B)(k:Code):OwnFrom B (MemX wl g14 g13 g3 g9 g4 t A n c stop ms k):=by
  rintro s W W' row (h1|⟨h1,h2,h3,M,h4⟩) hg hr
  · exact .inl h1
  · exact .inr ⟨h1,h2,h3,M,MemI.own h M s W W' row h4 hg hr⟩
theorem PI.step {gm gr:Nat}{wB w:World}{ms:List MarkA}{Q:Nat→Prop}(h:PI gm gr wB ms Q w)(o:MOp)(D:Option Addr)(dc:Nat)(hB:Below wB.heap.size wB w)(hx:kOp.C wB D o.ops.length o.ops)(hxc:o.ops.length≤dc)(hz:mopSz o)(hT:Tabs wB)(es:List Addr)(hE9:Errs wB es):
    Calls Tryz.prog 9 #[.pointer (some ⟨gm,0,none⟩),.pointer (some ⟨gr,0,none⟩),.agg #[.int .i64 o.kind,.bool o.second,.string o.mark.1,.int .i64 o.mark.2.1,.int .i64 o.mark.2.2,.int .i64 o.cells,.slice D o.ops.length dc]] w fun e w'=>e=.returned (.bool true)∧∃ ms' Q',PI gm gr wB ms' Q' w'∧NewQ Q Q' w∧Chg Q w w':=step23_any gm gr wB ms Q o D dc w h hB hx hxc hz hT es hE9
theorem PI.mk0 {gm gr:Nat}{wB w:World}{Qm:Nat→Prop}(h:MI gm wB.heap.size [] Qm w)(hk:RX.Blk w gr 29 #[.slice none 0 0])(hg:wB.heap.size≤gr)(hB:wB.heap.size≤w.heap.size)(hn:¬Qm gr):PI gm gr wB [] (fun k=>Qm k∨k=gr) w:=
  ⟨Qm,fun k=>k=gr,h,⟨none,0,hk,Kd.R_nil _ _ _ _ _,funext fun k=>propext ⟨fun e=>.inl e,fun e=>e.elim id (fun e=>by cases e)⟩,hg,hB⟩,fun k h1 h2=>hn (h2▸h1),rfl⟩
end Go.Proofs.YtlnnjfdonilgmaaGreatDoor
