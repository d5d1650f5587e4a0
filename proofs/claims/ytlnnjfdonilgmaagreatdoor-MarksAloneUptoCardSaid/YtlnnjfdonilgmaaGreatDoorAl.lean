import Derived.Test.YtlnnjfdonilgmaaGreatDoorK10
/- vellumlaw23.fixed. Conditions: the tables of utf8, the errors' variables. -/

set_option linter.unusedVariables false
set_option linter.unusedSimpArgs false
set_option maxRecDepth 100000
namespace Go.Proofs.YtlnnjfdonilgmaaGreatDoor
open Go Go.RowKit Go.Proofs.YtlnnjfdonilgmaaGreatDoorW.PrintWords RX
theorem ent7 :Ent Tryz.prog 7:=ent_of Tryz.func7 (by kernel_rfl) rfl

abbrev bAnn :ByteArray:=⟨#[97,110,110]⟩
abbrev bBob :ByteArray:=⟨#[98,111,98]⟩
abbrev bEve :ByteArray:=⟨#[101,118,101]⟩
abbrev fxA :MarkA:=(bAnn,2,2)
abbrev fxB :MarkA:=(bBob,2,4)
abbrev fxL :List MarkA:=[(bAnn,4,4),(bBob,2,6)]
def fxO :List OpA:=[⟨3,ByteArray.empty,0,0,ByteArray.empty,2,[]⟩,⟨1,⟨#[120,121]⟩,0,0,ByteArray.empty,0,[]⟩]
theorem nm_ann :nmOk bAnn:=⟨by decide,by decide,by kernel_rfl⟩
theorem nm_bob :nmOk bBob:=⟨by decide,by decide,by kernel_rfl⟩
theorem fx1 :sCode [] fxA 5=0:=sCode_0 nm_ann (by decide) (fun h=>by have:=h.2; simp at this)
theorem fx2 :sMs [] fxA 5=[fxA]:=sMs_put fx1
theorem fx3 :sCode [fxA] fxB 5=0:=sCode_0 nm_bob (by decide) (fun h=>by have:=h.2; simp at this)
theorem fx4 :sMs [fxA] fxB 5=[fxA,fxB]:=(sMs_put fx3).trans (by kernel_rfl)
theorem fxO_bad :badE fxO=0:=by kernel_rfl
theorem fxO_sums :sB fxO≤B.L∧sR fxO≤B.L:=by
 have h1:=U.sc_le ⟨#[120,121]⟩
 have e1:ByteArray.size ⟨#[120,121]⟩=2:=rfl
 refine⟨show sumI opB fxO≤1099511627776 from ?_,show sumI opR fxO≤1099511627776 from ?_⟩
 ·simp only[fxO,sumI,opB,opLen]; simp
 simp only[fxO,sumI,opR,opLen]; simp; omega
theorem fxO_can :Can fxO:=by
 have h:=(B.bOf_canOk (xs:=fxO) (by rw[B.bOf_of fxO_bad fxO_sums.1 fxO_sums.2])).1
 rwa [show B.can fxO=fxO from by kernel_rfl]at h
theorem fx_lit {t:ByteArray}{k n:Int}(h:t.size≤100):opSz ⟨k,t,0,0,ByteArray.empty,n,[]⟩:=⟨Nat.le_trans h (by decide),Nat.zero_le _,Nat.zero_le _,fun i hi=>absurd hi (Nat.not_lt_zero _)⟩
theorem fxO_sz :∀ i,i<fxO.length→opSz (fxO.getD i op0):=by
 intro i hi
 match i,hi with
 | 0,_=>exact fx_lit (by decide)
 | 1,_=>exact fx_lit (by decide)
 | k+2,h=>exact absurd h (by show ¬k+2<2; omega)
theorem fx_xy :(U.sc ⟨#[120,121]⟩).length=2:=by
 have h:=(U.text_utf (l:=[120,121]) (by intro r hr; simp only[List.mem_cons,List.not_mem_nil,or_false]at hr; rcases hr with rfl|rfl<;>exact⟨by decide,.inl (by decide)⟩)).2
 rw[show runesBytes [120,121]=⟨#[120,121]⟩from by kernel_rfl]at h
 simpa using congrArg List.length h
theorem fx_pel :fxO.map pelO=[(3,2),(1,2)]:=by
 show [pelO _,pelO _]=_
 unfold pelO
 simp only[fx_xy]
 rfl
theorem fx_pl {p q:Int}{b:Bool}(h0:¬(p<0∨1099511627776<p))(h:plOf p b [(3,2),(1,2)]=q)(h1:¬1099511627776<q):plE fxO p b=(q,0):=by
 unfold plE
 rw[if_neg h0,fx_pel,h,if_neg h1]
theorem fx_a :plE fxO 2 (bA fxA bAnn)=(4,0):=fx_pl (by decide) (by kernel_rfl) (by decide)
theorem fx_b1 :plE fxO 2 (bA fxB bAnn)=(2,0):=fx_pl (by decide) (by kernel_rfl) (by decide)
theorem fx_b2 :plE fxO 4 (bA fxB bAnn)=(6,0):=fx_pl (by decide) (by kernel_rfl) (by decide)
theorem fx_ok :∀ x∈[fxA,fxB],mvOk fxO bAnn x:=by
 intro x hx
 simp only[List.mem_cons,List.not_mem_nil,or_false]at hx
 rcases hx with rfl|rfl
 ·exact⟨congrArg Prod.snd fx_a,congrArg Prod.snd fx_a⟩
 exact⟨congrArg Prod.snd fx_b1,congrArg Prod.snd fx_b2⟩
theorem fx5 :mvE fxO bAnn [fxA,fxB]=0:=if_pos fx_ok
theorem fx6 :mvMs fxO bAnn [fxA,fxB]=fxL:=(if_pos fx_ok).trans (by
 show [(bAnn,(plE fxO 2 (bA fxA bAnn)).1,(plE fxO 2 (bA fxA bAnn)).1),(bBob,(plE fxO 2 (bA fxB bAnn)).1,(plE fxO 4 (bA fxB bAnn)).1)]=_
 rw[fx_a,fx_b1,fx_b2])
theorem fx7 :gMk fxL bAnn=(bAnn,4,4):=by kernel_rfl
theorem fx8 :gMk fxL bBob=(bBob,2,6):=by kernel_rfl
theorem fx9 :dCode fxL bAnn=0:=by kernel_rfl
theorem fx10 :dCode fxL bBob=0:=by kernel_rfl
theorem fx11 :dCode fxL bEve=16:=by kernel_rfl
theorem lof_can (A:Option Addr)(c:Nat)(xs:List OpA)(w:World)(hc:Can xs)(hx:kOp.C w A xs.length xs)(hxc:xs.length≤c)(hn:xs.length≤1100000)(hz:∀ i,i<xs.length→opSz (xs.getD i op0))(ht:B.txS xs≤50000000)(hT:Tabs w)(es:List Addr)(hE:ErrsM w es):
  Calls Tryz.prog 11 #[aL A xs c] w fun e w'=>∃ d A' c',e=.returned (pw d 0)∧DeltaR w' w.heap.size d A' c' xs∧Below w.heap.size w w':=
 (lof_any A c xs w hx hxc hn hz ht hT es hE).mono fun e w' ⟨hb,h⟩=>by
  rcases h with ⟨_,_,d,A',c',k1,k2⟩|⟨k1,_⟩
  ·exact⟨d,A',c',k1,k2,hb⟩
  exact absurd hc k1
set_option maxHeartbeats 2000000 in
theorem fixed23_any (wB:World)(hT:Tabs wB)(es:List Addr)(hE:ErrsM wB es):Calls Tryz.prog 7 #[] wB fun e w'=>e=.returned bT∧Below wB.heap.size wB w':=by
 refine en Tryz.func7 rfl 73 [] (fun R_ hR_=>?_)
 refine sg (xe0 1 [] ?_)
 refine nl (sg (xc 8 ent8 [] (MI.new _) ?_))
 rintro e w5 ⟨g1,Q2,rfl,M3,b4⟩; refine⟨_,rfl,?_⟩
 have M6:MI g1 wB.heap.size [] Q2 w5:=MI.low M3 (Nat.le_refl _)
 refine xe0 1 [(1,pw g1 0)] ?_
 refine nl (sg (xw 3 [] [(10,.slice (some ⟨w5.heap.size,0,none⟩) 2 2)] [] (w5.alloc (.cells #[i6 3,s0,i6 0,i6 0,s0,i6 2,.slice none 0 0,i6 1,sT (⟨#[120,121]⟩:ByteArray),i6 0,i6 0,s0,i6 0,.slice none 0 0] 70)) [] trivial ?_))
 obtain⟨w7,w11,b8,k9,z10⟩:=new_world w5 #[i6 3,s0,i6 0,i6 0,s0,i6 2,.slice none 0 0,i6 1,sT (⟨#[120,121]⟩:ByteArray),i6 0,i6 0,s0,i6 0,.slice none 0 0] 70
 rw[w11]
 have r12:=Kd.R_litB kOp (W:=w5) (e:=70) (cs:=#[i6 3,s0,i6 0,i6 0,s0,i6 2,.slice none 0 0,i6 1,sT (⟨#[120,121]⟩:ByteArray),i6 0,i6 0,s0,i6 0,.slice none 0 0]) [(⟨3,ByteArray.empty,0,0,ByteArray.empty,2,[]⟩:OpA),(⟨1,(⟨#[120,121]⟩:ByteArray),0,0,ByteArray.empty,0,[]⟩:OpA)] k9 (repsOp0 [(⟨3,ByteArray.empty,0,0,ByteArray.empty,2,[]⟩:OpA),(⟨1,(⟨#[120,121]⟩:ByteArray),0,0,ByteArray.empty,0,[]⟩:OpA)] (by intro x hx; simp only[List.mem_cons,List.not_mem_nil,or_false]at hx; rcases hx with rfl|rfl<;>rfl)) (Nat.le_of_ble_eq_true (by kernel_rfl))
 refine xc 11 ent11 [.slice (some ⟨w5.heap.size,0,none⟩) 2 2] (lof_can _ 2 fxO _ fxO_can (Kd.R_C r12) (Nat.le_of_ble_eq_true rfl) (Nat.le_of_ble_eq_true rfl) fxO_sz (Nat.le_of_ble_eq_true rfl) (hT.below (bt b4 b8)) es (hE.below (bt b4 b8))) ?_
 rintro e w13 ⟨d14,A15,c16,rfl,d17,b18⟩; refine⟨_,rfl,?_⟩
 refine xr0 1 [(2,pw d14 0)] [10,11] ?_
 refine nl (sq (sg (xr0 9 [(18,bF),(19,pw g1 0),(20,.agg #[sT (⟨#[97,110,110]⟩:ByteArray),i6 2,i6 2])] [] ?_)))
 have O24:=(M6.below (bt b8 b18))
 refine xc 15 ent15 [pw g1 0,.agg #[sT (⟨#[97,110,110]⟩:ByteArray),i6 2,i6 2],i6 5] (O24.set fxA 5 (by decide) (hT.below (bt (bt b4 b8) b18)) es (hE.below (bt (bt b4 b8) b18))) ?_
 rintro e w19 ⟨rfl,M20,C21⟩; refine⟨_,rfl,?_⟩
 have hlo25:Below wB.heap.size w13 w19:=C21.lo ((bt (bt b4 b8) b18)).size (fun g_ h_=>(O24.lt g_ h_).1)
 have k26:=C21.blk (Blk.below k9 b18) (fun h_=>absurd (M6.lt _ h_).2 (Nat.not_lt.2 (Nat.le_refl _)))
 have hno27:¬Q2 w5.heap.size:=(fun h_=>absurd (M6.lt _ h_).2 (Nat.not_lt.2 (Nat.le_refl _)))
 have D28:=DeltaR.far d17 C21 (fun k_ h_=>Nat.lt_of_lt_of_le (M6.lt k_ h_).2 (b8).size)
 rw[fx2]at M20
 rw[fx1,errV_zero]
 refine xr0 5 [(24,bF),(25,pw g1 0),(26,.agg #[sT (⟨#[98,111,98]⟩:ByteArray),i6 2,i6 4])] [18,19,20,21] ?_
 have B29:Below wB.heap.size wB w19:=(Below.trans (bt (bt b4 b8) b18) hlo25)
 have O35:=M20
 refine xc 15 ent15 [pw g1 0,.agg #[sT (⟨#[98,111,98]⟩:ByteArray),i6 2,i6 4],i6 5] (O35.set fxB 5 (by decide) (hT.below B29) es (hE.below B29)) ?_
 rintro e w30 ⟨rfl,M31,C32⟩; refine⟨_,rfl,?_⟩
 have hlo36:Below wB.heap.size w19 w30:=C32.lo (B29).size (fun g_ h_=>(O35.lt g_ h_).1)
 have k37:=C32.blk k26 hno27
 have D38:=DeltaR.far D28 C32 (fun k_ h_=>Nat.lt_of_lt_of_le (M6.lt k_ h_).2 (b8).size)
 rw[fx4]at M31
 rw[fx3,errV_zero]
 refine xe0 5 [(1,pw g1 0),(30,bF),(31,pw g1 0),(32,pw d14 0)] ?_
 have O44:=M31
 refine xc 16 ent16 [pw g1 0,pw d14 0,sT (⟨#[97,110,110]⟩:ByteArray)] (O44.move d14 fxO bAnn (D38.c) fxO_bad (Nat.le_of_ble_eq_true rfl) fxO_sz (hT.below (Below.trans B29 hlo36)) es (hE.below (Below.trans B29 hlo36)) ((Below.trans B29 hlo36)).size) ?_
 rintro e w39 ⟨rfl,Q42,M40,N43,C41⟩; refine⟨_,rfl,?_⟩
 have hlo45:Below wB.heap.size w30 w39:=C41.lo ((Below.trans B29 hlo36)).size (fun g_ h_=>(O44.lt g_ h_).1)
 have hno47:¬Q42 w5.heap.size:=N43.no hno27 (Blk.lt k37)
 have D48:=DeltaR.far D38 C41 (fun k_ h_=>Nat.lt_of_lt_of_le (M6.lt k_ h_).2 (b8).size)
 rw[fx6]at M40
 rw[fx5,errV_zero]
 refine xe0 2 [(1,pw g1 0),(35,bF)] ?_
 refine nl (cf (sk (sg (xr0 1 [(37,pw g1 0)] [35] ?_))))
 have B49:Below wB.heap.size wB w39:=(Below.trans (Below.trans B29 hlo36) hlo45)
 refine xc 17 ent17 [pw g1 0,sT (⟨#[97,110,110]⟩:ByteArray)] (M40.get bAnn (by decide) (hT.below B49) es (hE.below B49)) ?_
 rintro e w50 ⟨rfl,b51⟩; refine⟨_,rfl,?_⟩
 rw[fx7,fx9,errV_zero]
 refine xw 4 [] [(3,pw w50.heap.size 0),(39,.agg #[sT bAnn,i6 4,i6 4]),(40,.nilIface)] [37,38] (w50.alloc (.cells #[s0,i6 0,i6 0] 31)) [] trivial ?_
 obtain⟨w52,w56,b53,k54,z55⟩:=new_world w50 #[s0,i6 0,i6 0] 31
 rw[w56]
 refine xst (.agg #[sT bAnn,i6 4,i6 4]) k54 0 #[sT bAnn,i6 4,i6 4] (fun w57 g58 k59 z60=>?_)
 refine xr0 1 [(4,.nilIface)] [39,40] ?_
 refine nl (sg (xr0 1 [(42,pw g1 0)] [] ?_))
 have B63:Below wB.heap.size wB w57:=(bg (bt (bt B49 b51) b53) g58 ((bt B49 b51)).size)
 refine xc 17 ent17 [pw g1 0,sT (⟨#[98,111,98]⟩:ByteArray)] ((M40.below (bg (bt b51 b53) g58 (b51).size)).get bBob (by decide) (hT.below B63) es (hE.below B63)) ?_
 rintro e w64 ⟨rfl,b65⟩; refine⟨_,rfl,?_⟩
 rw[fx8,fx10,errV_zero]
 refine xw 4 [] [(5,pw w64.heap.size 0),(44,.agg #[sT bBob,i6 2,i6 6]),(45,.nilIface)] [42,43] (w64.alloc (.cells #[s0,i6 0,i6 0] 31)) [] trivial ?_
 obtain⟨w66,w70,b67,k68,z69⟩:=new_world w64 #[s0,i6 0,i6 0] 31
 rw[w70]
 refine xst (.agg #[sT bBob,i6 2,i6 6]) k68 0 #[sT bBob,i6 2,i6 6] (fun w71 g72 k73 z74=>?_)
 refine xe0 1 [(1,pw g1 0),(3,pw w50.heap.size 0),(4,.nilIface),(5,pw w64.heap.size 0),(6,.nilIface)] ?_
 refine nl (sq (X_gen (S:=fun w_=>RX.Blk w_ w50.heap.size 31 #[sT bAnn,i6 4,i6 4]∧RX.Blk w_ w64.heap.size 31 #[sT bBob,i6 2,i6 6]∧w_.cell? (⟨0,0,none⟩)=some (.iface 208 (.pointer (some (errAt es 16))))) [] 28 (tf 0 28) (by kernel_rfl) (by kernel_rfl) (by kernel_rfl) (fun wd77 b78 h79=>?_)))
 have B80:Below w57.heap.size w57 wd77:=(bt (bg (bt b65 b67) g72 (b65).size) b78)
 have B81:Below wB.heap.size wB wd77:=(bt (bg (bt (bt B63 b65) b67) g72 ((bt B63 b65)).size) b78)
 refine XG_runC (fuel':=10) ⟨(Blk.below k59 B80),(Blk.below k73 b78),((B81.cell (World.block_lt_of_cell? _ _ (hE.load 16 0 (by decide) (by decide) rfl))).trans (hE.load 16 0 (by decide) (by decide) rfl))⟩ [0,1,2,3,4,5,6,7,8,9,10,11,12,13,14,15,16,17] [(53,.load (.agg #[sT bAnn,i6 4,i6 4])),(55,.as bT),(58,.load (.agg #[sT bBob,i6 2,i6 6])),(60,.as bT)] [.nilIface,bT,bT,.nilIface,bT,bT,bT,.agg #[sT bAnn,i6 4,i6 4],.agg #[sT (⟨#[97,110,110]⟩:ByteArray),i6 4,i6 4],bT,bT,bT,.agg #[sT bBob,i6 2,i6 6],.agg #[sT (⟨#[98,111,98]⟩:ByteArray),i6 2,i6 6],bT,bT,bT,pw g1 0] (tf 18 10) [(62,bT),(63,pw g1 0)] [3,4,5,6] (fun w_=>[la 31 (⟨w50.heap.size,0,none⟩) (.agg #[sT bAnn,i6 4,i6 4]) w_,RunsAs Tryz.prog [(53,.agg #[sT bAnn,i6 4,i6 4]),(54,.agg #[sT (⟨#[97,110,110]⟩:ByteArray),i6 4,i6 4])] (Go.Op.binOp Go.BinOp.eql 31 (Go.Operand.tmp 53) (Go.Operand.tmp 54) 31) 4 bT w_,la 31 (⟨w64.heap.size,0,none⟩) (.agg #[sT bBob,i6 2,i6 6]) w_,RunsAs Tryz.prog [(58,.agg #[sT bBob,i6 2,i6 6]),(59,.agg #[sT (⟨#[98,111,98]⟩:ByteArray),i6 2,i6 6])] (Go.Op.binOp Go.BinOp.eql 31 (Go.Operand.tmp 58) (Go.Operand.tmp 59) 31) 4 bT w_]) (fun w_ hC_=>⟨loadsB rfl rfl hC_.1 0 ⟨by kernel_rfl,by kernel_rfl⟩,runs_bin rfl rfl (run_eqGuard_agg _ _ _ _ _ _ _ (by kernel_rfl)) (mark_eqb (bAnn,4,4) _),loadsB rfl rfl hC_.2.1 0 ⟨by kernel_rfl,by kernel_rfl⟩,runs_bin rfl rfl (run_eqGuard_agg _ _ _ _ _ _ _ (by kernel_rfl)) (mark_eqb (bBob,2,6) _),trivial⟩) ?_
 refine XG_mid (fuel':=9) 18 (tf 19 9) _ rfl (by kernel_rfl) (by kernel_rfl) rfl ?_
 have B82:Below w39.heap.size w39 w64:=(bt (bg (bt b51 b53) g58 (b51).size) b65)
 have B83:Below w39.heap.size w39 wd77:=(bt (bg (bt B82 b67) g72 (B82).size) b78)
 refine xc 26 ent26 [pw g1 0] ((M40.below B83).len) ?_
 rintro e w84 ⟨rfl,b85⟩; refine⟨_,rfl,?_⟩
 refine nl ?_
 refine⟨⟨(Blk.below k59 (bt B80 b85)),(Blk.below k73 (bt b78 b85)),(((bt B81 b85).cell (World.block_lt_of_cell? _ _ (hE.load 16 0 (by decide) (by decide) rfl))).trans (hE.load 16 0 (by decide) (by decide) rfl))⟩,?_⟩
 refine XG_runC (fuel':=4) ⟨(Blk.below k59 (bt B80 b85)),(Blk.below k73 (bt b78 b85)),(((bt B81 b85).cell (World.block_lt_of_cell? _ _ (hE.load 16 0 (by decide) (by decide) rfl))).trans (hE.load 16 0 (by decide) (by decide) rfl))⟩ [19,20,21,22,24] [(70,.load (.iface 208 (.pointer (some (errAt es 16)))))] [bT,bT,bT,pw g1 0,.iface 208 (.pointer (some (errAt es 16)))] #[true,true,true,true,true,true,true,true,true,true,true,true,true,true,true,true,true,true,true,true,true,true,true,false,true,false,false,false] [(67,bT),(68,pw g1 0),(70,.iface 208 (.pointer (some (errAt es 16))))] [1,62,63,64] (fun w_=>[la 45 (⟨0,0,none⟩) (.iface 208 (.pointer (some (errAt es 16)))) w_]) (fun w_ hC_=>⟨loads1 rfl hC_.2.2,trivial⟩) ?_
 refine XG_mid (fuel':=3) 23 (tf 25 3) _ rfl (by kernel_rfl) (by kernel_rfl) rfl ?_
 have O91:=(M40.below (bt B83 b85))
 refine xc 25 ent25 [pw g1 0,sT (⟨#[101,118,101]⟩:ByteArray)] (O91.drop bEve (by decide) (hT.below (bt B81 b85)) es (hE.below (bt B81 b85))) ?_
 rintro e w86 ⟨rfl,M87,C88⟩; refine⟨_,rfl,?_⟩
 have hlo92:Below wB.heap.size w84 w86:=C88.lo ((bt B81 b85)).size (fun g_ h_=>(O91.lt g_ h_).1)
 have k94:=C88.blk (Blk.below k59 (bt B80 b85)) (fun h_=>absurd (M40.lt _ h_).2 (Nat.not_lt.2 (b51).size))
 have hno95:¬Q42 w50.heap.size:=(fun h_=>absurd (M40.lt _ h_).2 (Nat.not_lt.2 (b51).size))
 have k96:=C88.blk (Blk.below k73 (bt b78 b85)) (fun h_=>absurd (M40.lt _ h_).2 (Nat.not_lt.2 (B82).size))
 have hno97:¬Q42 w64.heap.size:=(fun h_=>absurd (M40.lt _ h_).2 (Nat.not_lt.2 (B82).size))
 rw[fx11,errV_pos es 16 (by decide)]
 refine nl ?_
 refine⟨⟨k94,k96,(((Below.trans (bt B81 b85) hlo92).cell (World.block_lt_of_cell? _ _ (hE.load 16 0 (by decide) (by decide) rfl))).trans (hE.load 16 0 (by decide) (by decide) rfl))⟩,?_⟩
 refine XG_run (fuel':=0) ⟨k94,k96,(((Below.trans (bt B81 b85) hlo92).cell (World.block_lt_of_cell? _ _ (hE.load 16 0 (by decide) (by decide) rfl))).trans (hE.load 16 0 (by decide) (by decide) rfl))⟩ [25,26,27] [(71,.as bT)] [bT,bT,bT] (tf 28 0) [(0,bT)] (fun w_=>[RunsAs Tryz.prog [(69,.iface 208 (.pointer (some (errAt es 16)))),(70,.iface 208 (.pointer (some (errAt es 16))))] (Go.Op.binOp Go.BinOp.eql 45 (Go.Operand.tmp 69) (Go.Operand.tmp 70) 45) 4 bT w_]) (fun w_ hC_=>⟨runs_bin rfl rfl rfl (err_self es 16 _),trivial⟩) ?_
 refine XG_done (by kernel_rfl) ?_
 refine X_ret (rj [bT] hR_ ?_)
 exact⟨rfl,(Below.trans (bt B81 b85) hlo92)⟩
def pq (n x:Int):Int:=Int.tmod (IntKind.u64.wrap x) n
theorem pq_bd {n x:Int}(h:0<n):0≤pq n x∧pq n x<n:=by
  have h0:0≤IntKind.u64.wrap x:=by rw[IntKind.wrap_u64]; omega
  unfold pq
  rw[Int.tmod_eq_emod_of_nonneg h0]
  exact⟨Int.emod_nonneg _ (by omega),Int.emod_lt_of_pos _ h⟩
theorem pq_cv {n:Int}(x:Int)(h:0<n)(h1:n≤1099511627776):Value.int .i64 (IntKind.i64.wrap (Int.tmod (IntKind.u64.wrap x) n))=.int .i64 (pq n x):=wr_i64 (by have:=(pq_bd (n:=n) (x:=x) h).1; unfold pq at this; omega) (by have:=(pq_bd (n:=n) (x:=x) h).2; unfold pq at this; omega)
abbrev hfP (x:Int):Int:=IntKind.i64.wrap (Int.tdiv x 2)
theorem hf_bd {x:Int}(h0:0≤x)(h1:x≤1000):0≤hfP x∧hfP x≤1000:=by
  unfold hfP
  rw[Int.tdiv_eq_ediv_of_nonneg h0]
  have h:=wr_i64 (x:=x/2) (by omega) (by omega)
  injection h with _ h
  rw[h]; omega
theorem al_room (x:Int):(⟨#[110]⟩:ByteArray).size+(strOfNums [x]).size≤9223372036854775807:=by rw[strOfNums_size]; exact(by decide:1+1≤9223372036854775807)
def nmT (t:Int):ByteArray:=(⟨#[110]⟩:ByteArray)++strOfNums [65+t]
noncomputable def mkI (ps:List Int) (t:Int):MarkA:=(nmT t,pq 1000 (rd ps t),hfP (pq 1000 (rd ps t)))
theorem nmT_all :((List.range 40).all fun t=>decide (1≤(nmT (t:Nat)).size)&&decide ((nmT (t:Nat)).size≤64)&&(uchk (nmT (t:Nat))).2)=true:=by kernel_rfl
theorem nmT_kl :((List.range 40).all fun s=>(List.range 40).all fun t=>kl (nmT (s:Nat)) (nmT (t:Nat))==decide (s<t))=true:=by kernel_rfl
theorem nmT_ok {t:Int}(h0:0≤t)(h1:t<40):nmOk (nmT t):=by
  have h:=List.all_eq_true.1 nmT_all t.toNat (List.mem_range.2 (by omega))
  rw[Int.toNat_of_nonneg h0]at h
  simp only[Bool.and_eq_true,decide_eq_true_eq]at h
  exact⟨h.1.1,h.1.2,h.2⟩
theorem nmT_lt {s t:Nat}(h:s<t)(ht:t<40):kl (nmT (s:Int)) (nmT (t:Int))=true:=by
  have h1:=List.all_eq_true.1 (List.all_eq_true.1 nmT_kl s (List.mem_range.2 (by omega))) t (List.mem_range.2 ht)
  rw[decide_eq_true h]at h1
  simpa using h1
noncomputable def alL (ps:List Int) (n:Nat):List MarkA:=(List.range n).map fun(t:Nat)=>mkI ps (t:Int)
noncomputable def alR (ps:List Int) (n j:Nat):List MarkA:=((List.range n).drop j).map fun(t:Nat)=>mkI ps (t:Int)
theorem alL_len (ps:List Int)(n:Nat):(alL ps n).length=n:=by unfold alL; rw[List.length_map,List.length_range]
theorem alL_succ (ps:List Int)(n:Nat):alL ps (n+1)=alL ps n++[mkI ps (n:Int)]:=by unfold alL; rw[List.range_succ,List.map_append]; rfl
theorem alR_zero (ps:List Int)(n:Nat):alR ps n 0=alL ps n:=by unfold alR alL; rw[List.drop_zero]
theorem alR_end (ps:List Int)(n:Nat):alR ps n n=[]:=by unfold alR; rw[List.drop_eq_nil_of_le (by rw[List.length_range]; exact Nat.le_refl _)]; rfl
theorem alR_len (ps:List Int)(n j:Nat):(alR ps n j).length=n-j:=by unfold alR; rw[List.length_map,List.length_drop,List.length_range]
theorem alR_step {ps:List Int}{n j:Nat}(h:j<n):alR ps n j=mkI ps (j:Int)::alR ps n (j+1):=by
  unfold alR
  rw[List.drop_eq_getElem_cons (by rw[List.length_range]; exact h),List.map_cons,List.getElem_range]
theorem al_c (ps:List Int){t:Int}{ms:List MarkA}(h0:0≤t)(h1:t<40)(hl:ms.length<64):sCode ms (mkI ps t) 1000=0:=by
  have b:=pq_bd (n:=1000) (x:=rd ps t) (by omega)
  have d:=hf_bd b.1 (by omega)
  exact sCode_0 (nmT_ok h0 h1) (show ¬(pq 1000 (rd ps t)<0∨1000<pq 1000 (rd ps t)∨hfP (pq 1000 (rd ps t))<0∨1000<hfP (pq 1000 (rd ps t))) by omega) fun h=>by omega
theorem al_ks (ps:List Int){t:Int}(h0:0≤t)(h1:t<40):(mkI ps t).1.size≤9223372036854775807:=by have:=(nmT_ok h0 h1).2.1; show (nmT t).size≤_; omega
theorem al_z (ps:List Int){t:Int}(h0:0≤t)(h1:t<40):sMs [] (mkI ps t) 1000=[mkI ps t]:=sMs_put (al_c ps h0 h1 (by decide))
theorem al_x (ps:List Int){i:Nat}(h:i<40):sMs (alL ps i) (mkI ps (i:Int)) 1000=alL ps (i+1):=by
  rw[sMs_put (al_c ps (by omega) (by omega) (by rw[alL_len]; omega)),alL_succ]
  refine mput_end fun x hx=>?_
  obtain⟨t,ht,rfl⟩:=List.mem_map.1 hx
  exact nmT_lt (List.mem_range.1 ht) h
theorem mput_front {ms:List MarkA}{m:MarkA}(h:∀ x∈ms,kl m.1 x.1=true):mPut ms m=m::ms:=by
  cases ms with
  | nil=>rfl
  | cons x r=>
    have h1:=h x (by simp)
    have h2:¬kl x.1 m.1=true:=fun h3=>by have:=kl_trans h1 h3; rw[kl_irrefl]at this; cases this
    rw[mPut,if_neg h2,if_neg fun e=>kl_ne h1 e.symm]
theorem al_y (ps:List Int){n j:Nat}{u:Int}(hu:u=(j:Int)-1)(hj:1≤j)(hn:j≤n)(h:n≤40):sCode (alR ps n j) (mkI ps u) 1000=0∧sMs (alR ps n j) (mkI ps u) 1000=alR ps n (j-1):=by
  have hc:sCode (alR ps n j) (mkI ps u) 1000=0:=al_c ps (by omega) (by omega) (by rw[alR_len]; omega)
  refine⟨hc,?_⟩
  obtain⟨k,rfl⟩:∃ k,j=k+1:=⟨j-1,by omega⟩
  obtain rfl:u=(k:Int):=by omega
  rw[sMs_put hc,Nat.add_sub_cancel,alR_step (show k<n by omega)]
  refine mput_front fun x hx=>?_
  obtain⟨t,ht,rfl⟩:=List.mem_map.1 hx
  rw[List.mem_drop_iff_getElem]at ht
  obtain⟨q,hq,e⟩:=ht
  rw[List.getElem_range]at e
  rw[List.length_range]at hq
  exact nmT_lt (s:=k) (t:=t) (by omega) (by omega)
theorem mvE_no {xs:List OpA}{au:ByteArray}{ms:List MarkA}(h:¬mvE xs au ms=0):mvE xs au ms=11:=by
  unfold mvE at h ⊢
  split
  · rename_i h1; rw[if_pos h1]at h; exact absurd rfl h
  · rfl
theorem mvE_one {xs:List OpA}{au:ByteArray}{m:MarkA}(h:mvE xs au [m]=0):mvOk xs au m∧mvMs xs au [m]=[mvMk xs au m]:=by
  have h1:∀ x∈[m],mvOk xs au x:=by
    refine Classical.byContradiction fun hn=>?_
    unfold mvE at h
    rw[if_neg hn]at h; cases h
  exact⟨h1 m (by simp),if_pos h1⟩
theorem al_mv {xs:List OpA}{au:ByteArray}{ps:List Int}{n:Nat}(h:∀ t:Nat,t<n→mvOk xs au (mkI ps (t:Int))):mvE xs au (alL ps n)=0∧mvMs xs au (alL ps n)=(alL ps n).map (mvMk xs au):=by
  have h1:∀ x∈alL ps n,mvOk xs au x:=fun x hx=>by
    obtain⟨t,ht,rfl⟩:=List.mem_map.1 hx
    exact h t (List.mem_range.1 ht)
  exact⟨if_pos h1,if_pos h1⟩
end Go.Proofs.YtlnnjfdonilgmaaGreatDoor
