import Derived.Test.YtlnnjfdonilgmaaGreatDoorAl
/- MarksAlone returns true. Conditions: sizes, the tables of utf8, the errors' variables. -/
set_option linter.unusedVariables false
set_option linter.unusedSimpArgs false
set_option maxRecDepth 100000
namespace Go.Proofs.YtlnnjfdonilgmaaGreatDoor
open Go Go.RowKit Go.Proofs.YtlnnjfdonilgmaaGreatDoorW.PrintWords RX
set_option maxHeartbeats 4000000 in
theorem marksAlone_law (A A1:Option Addr)(c c1:Nat)(xs:List OpA)(ps:List Int)(au:Int)(w0:World)(hx:kOp.C w0 A xs.length xs)(hp:(Kd.int .i64).C w0 A1 ps.length ps)(hxc:xs.length≤c)(hn:xs.length≤116508)(hz:∀ i,i<xs.length→opSz (xs.getD i op0))(ht:B.txS xs≤1048576)(hau: -9223372036854775808≤au∧au≤9223372036854775807)(hT0:Tabs w0)(es:List Addr)(hE0:Errs w0 es):
  Calls Tryz.prog 5 #[.slice A xs.length c,.slice A1 ps.length c1,i6 au] w0 fun e w'=>e=.returned bT∧Below w0.heap.size w0 w':=by
 refine en Tryz.func5 rfl 179 [(0,aL A xs c),(1,aL A1 ps c1),(2,i6 au)] (fun R_ hR_=>?_)
 refine sg (xe0 1 [(0,aL A xs c),(1,aL A1 ps c1),(2,i6 au)] ?_)
 refine nl (sq (sg (xc 7 ent7 [] (fixed23_any _ (hT0.below (Below.refl _ _)) es ((hE0.on (by decide):ErrsM w0 es).below (Below.refl _ _))) ?_)))
 rintro e w1 ⟨rfl,b2⟩; refine⟨_,rfl,?_⟩
 refine xr0 1 [(26,bF)] [25] ?_
 refine nl (cf (sk (sg (xr0 1 [(27,aL A xs c)] [0,26] ?_))))
 refine xc 11 ent11 [aL A xs c] (lof_any _ _ xs _ (Kd.C_below hx b2) hxc (by omega) hz (by omega) (hT0.below b2) es ((hE0.on (by decide):ErrsM w0 es).below b2)) ?_
 rintro e wB ⟨b3,⟨c4,hbd5,d6,A7,c8,rfl,d9⟩|⟨c4,rfl⟩⟩
 ·refine⟨_,rfl,?_⟩
  have hT:=hT0.below (bt b2 b3)
  have hE9:=hE0.below (bt b2 b3)
  have hE:ErrsM wB es:=hE9.on (by decide)
  have hdC_:=d9.c
  refine xr0 1 [(7,pw d6 0)] [27,28] ?_
  refine nl (sq (sg (xr0 5 [(31,bF),(33,i6 (ps.length:Int))] [] ?_)))
  by_cases c10:(ps.length:Int)>40
  ·refine xr1 2 [(34,.eq bT)] [(35,bT)] [31,33] (dT c10) ?_
   refine nl (ct (sg (xe0 1 [(6,bT)] ?_)))
   refine nl (X_ret (rj [bT] hR_ ?_))
   exact⟨rfl,(bt b2 b3)⟩
  refine xr1 2 [(34,.eq bF)] [(35,bF)] [31,33] (dF c10) ?_
  refine nl (cf (sk (sq (X_region ?_))))
  refine xwe 6 [(39,.eq (.int .u64 (65+pq 40 au))),(40,.eq (.int .u8 (65+pq 40 au)))] [(1,aL A1 ps c1),(7,pw d6 0),(41,.slice (some ⟨wB.heap.size,0,none⟩) 1 1)] (wB.alloc (.cells #[.int .u8 (65+pq 40 au)] 5)) [Value.int .u64 (IntKind.u64.wrap (65+(Int.tmod (IntKind.u64.wrap (au)) 40)))=Value.int .u64 (65+pq 40 au),Value.int .u8 (IntKind.u8.wrap ((65+pq 40 au)))=Value.int .u8 (65+pq 40 au)] ⟨by have h_:=pq_bd (n:=40) (x:=au) (by omega); exact wr_u64 (show 0≤65+pq 40 au by omega) (show 65+pq 40 au≤_ by omega),by have h_:=pq_bd (n:=40) (x:=au) (by omega); exact wr_u8 (by omega) (by omega),trivial⟩ ?_
  obtain⟨w11,w15,b12,k13,z14⟩:=new_world wB #[.int .u8 (65+pq 40 au)] 5
  rw[w15]
  have r16:=Kd.R_litB (Kd.int .u8) (W:=wB) (e:=5) (cs:=#[.int .u8 (65+pq 40 au)]) [(65+pq 40 au)] k13 (repsInt [(65+pq 40 au)]) (Nat.le_of_ble_eq_true (by kernel_rfl))
  refine xr 3 [(42,.as (sT (strOfNums ([(65+pq 40 au)])))),(43,.as (sT ((⟨#[110]⟩:ByteArray)++(strOfNums ([(65+pq 40 au)])))))] [(8,sT ((⟨#[110]⟩:ByteArray)++(strOfNums ([(65+pq 40 au)]))))] [41] [RunsAs Tryz.prog [(41,.slice (some ⟨wB.heap.size,0,none⟩) 1 1)] (Go.Op.convert 55 9 (Go.Operand.tmp 41)) 9 (sT (strOfNums ([(65+pq 40 au)]))) w11,RunsAs Tryz.prog [(42,sT (strOfNums ([(65+pq 40 au)])))] (Go.Op.binOp Go.BinOp.add 9 (Go.Operand.const (Go.Value.string { data:=#[110] })) (Go.Operand.tmp 42) 9) 9 (sT ((⟨#[110]⟩:ByteArray)++(strOfNums ([(65+pq 40 au)])))) w11] ⟨runs_conv rfl (conv_bytesC ([(65+pq 40 au)]) Tryz.underlying55 Tryz.underlying5 Tryz.underlying9 r16),runs_bin rfl rfl rfl (run_sadd (al_room _)),trivial⟩ ?_
  refine nl (sg (xc 8 ent8 [] (MI.new _) ?_))
  rintro e w21 ⟨g17,Q18,rfl,M19,b20⟩; refine⟨_,rfl,?_⟩
  have M22:MI g17 wB.heap.size [] Q18 w21:=MI.low M19 (b12).size
  have hno23:¬Q18 wB.heap.size:=fun h_=>absurd (Nat.lt_of_lt_of_le (Blk.lt k13) (Nat.le_refl _)) (Nat.not_lt.2 (M19.lt _ h_).1)
  refine xc 8 ent8 [] (MI.new _) ?_
  rintro e w28 ⟨g24,Q25,rfl,M26,b27⟩; refine⟨_,rfl,?_⟩
  have M29:MI g24 wB.heap.size [] Q25 w28:=MI.low M26 ((bt b12 b20)).size
  have d30:∀ k_,Q25 k_→¬Q18 k_:=fun k_ h1_ h2_=>absurd (M22.lt k_ h2_).2 (Nat.not_lt.2 (Nat.le_trans (Nat.le_refl _) (M26.lt k_ h1_).1))
  have hno31:¬Q25 wB.heap.size:=fun h_=>absurd (Nat.lt_of_lt_of_le (Blk.lt k13) (b20).size) (Nat.not_lt.2 (M26.lt _ h_).1)
  refine xr0 2 [(9,pw g17 0),(10,pw g24 0)] [44,45] ?_
  refine nl (sq (sg (xr0 6 [(51,bF)] [] ?_)))
  refine nl (cf (sk (sg (xr0 1 [(11,.slice none 0 0)] [51] ?_))))
  refine nl (sq (sg (xr0 3 [(52,aL A1 ps c1),(53,i6 (ps.length:Int)),(54,i6 0)] [] ?_)))
  refine nl (X_block ?_)
  have hpn_:ps.length≤40:=by omega
  have hdxy_:∀ k,Q18 k→¬Q25 k:=(fun k_ h1_ h2_=>d30 k_ h2_ h1_)
  have hxW_:w21.heap.size≤w28.heap.size:=(b27).size
  have hyW_:w28.heap.size≤w28.heap.size:=(Nat.le_refl _)
  refine X_loop (ι:=Nat×Option Addr×Nat×List MarkA) (fun⟨i,A3,c3,zs⟩=>[(1,aL A1 ps c1),(7,pw d6 0),(8,sT ((⟨#[110]⟩:ByteArray)++(strOfNums ([(65+pq 40 au)])))),(9,pw g17 0),(10,pw g24 0),(11,aL A3 zs c3),(52,aL A1 ps c1),(53,i6 (ps.length:Int)),(54,i6 (i:Int))]) (fun⟨i,A3,c3,zs⟩ wl=>i≤ps.length∧zs=((alL ps i).map (mvMk xs ((⟨#[110]⟩:ByteArray)++(strOfNums ([65+pq 40 au])))))∧(∀ t:Nat,t<i→mvOk xs ((⟨#[110]⟩:ByteArray)++(strOfNums ([65+pq 40 au]))) (mkI ps (t:Int)))∧MI g17 wB.heap.size (alL ps i) Q18 wl∧MI g24 wB.heap.size [] Q25 wl∧kMark.R 31 wl w28.heap.size (OkFrom w28.heap.size) (aL A3 zs c3) zs∧Below wB.heap.size wB wl∧w28.heap.size≤wl.heap.size) (fun⟨i,A3,c3,zs⟩=>ps.length-i) (0,none,0,[]) ⟨Nat.zero_le _,rfl,fun t_ ht_=>by omega,(M22.below b27),M29,Kd.R_nil _ _ _ _ _,(bt (bt b12 b20) b27),Nat.le_refl _⟩ (by kernel_rfl) ?_
  rintro⟨i,A3,c3,zs⟩ wl ⟨hi,he3,hok,hMx_,hMy_,hr3,HB_,hWl_⟩
  have hzl_:zs.length=i:=by rw[he3,List.length_map,alL_len]
  have hpq_:=pq_bd (n:=1000) (x:=rd ps (i:Int)) (by omega)
  refine sq (X_region ?_)
  by_cases c32:(i:Int)<(ps.length:Int)
  ·refine xr1 1 [(55,.eq bT)] [(55,bT)] [] (dT c32) ?_
   refine nl (sq (ct (sk (sq (bk (sg (xr0 1 [(56,nv i)] [55] ?_)))))))
   obtain⟨ad33,a34,c35⟩:=Kd.atI (Kd.C_below hp (bt (bt b2 b3) HB_)) (i:=(i:Int)) (by omega) (by omega)
   refine xr 4 [(57,.idx ad33),(58,.load (i6 (rd ps (i:Int))))] [(12,nv i),(13,i6 (rd ps (i:Int)))] [56] [A1=some ad33,(0:Int)≤(i:Int),(i:Int)<(ps.length:Int),la 3 (ad33.add ((i:Int).toNat*1)) (i6 (rd ps (i:Int))) wl] ⟨a34,(by omega),(by omega),loads1 rfl (elem_cell c35 0 _ rfl),trivial⟩ ?_
   refine nl (sg (xr 5 [(62,.eq (i6 (pq 1000 (rd ps (i:Int)))))] [(13,i6 (pq 1000 (rd ps (i:Int))))] [] [i6 (IntKind.i64.wrap (Int.tmod (IntKind.u64.wrap (rd ps (i:Int))) 1000))=i6 (pq 1000 (rd ps (i:Int)))] ⟨pq_cv _ (by omega) (by omega),trivial⟩ ?_))
   refine nl (sg (xw 4 [(64,.eq (i6 (65+(i:Int)))),(65,.eq (.int .u8 (65+(i:Int))))] [(66,.slice (some ⟨wl.heap.size,0,none⟩) 1 1)] [12] (wl.alloc (.cells #[.int .u8 (65+(i:Int))] 5)) [_,Value.int .u8 (IntKind.u8.wrap (65+(i:Int)))=Value.int .u8 (65+(i:Int))] ⟨w6 (65+(i:Int)),wr_u8 (by omega) (by omega),trivial⟩ ?_))
   obtain⟨w36,w40,b37,k38,z39⟩:=new_world wl #[.int .u8 (65+(i:Int))] 5
   rw[w40]
   have r41:=Kd.R_litB (Kd.int .u8) (W:=wl) (e:=5) (cs:=#[.int .u8 (65+(i:Int))]) [65+(i:Int)] k38 (repsInt [65+(i:Int)]) (Nat.le_of_ble_eq_true (by kernel_rfl))
   refine xwe 7 [(67,.as (sT (strOfNums ([65+(i:Int)])))),(68,.as (sT ((⟨#[110]⟩:ByteArray)++(strOfNums ([65+(i:Int)])))))] [(1,aL A1 ps c1),(7,pw d6 0),(8,sT ((⟨#[110]⟩:ByteArray)++(strOfNums ([(65+pq 40 au)])))),(9,pw g17 0),(10,pw g24 0),(11,aL A3 zs c3),(14,pw w36.heap.size 0),(52,aL A1 ps c1),(53,i6 (ps.length:Int)),(54,nv i),(72,.agg #[sT ((⟨#[110]⟩:ByteArray)++(strOfNums ([65+(i:Int)]))),i6 (pq 1000 (rd ps (i:Int))),i6 (IntKind.i64.wrap (Int.tdiv (pq 1000 (rd ps (i:Int))) 2))])] (w36.alloc (.cells #[s0,i6 0,i6 0] 31)) [RunsAs Tryz.prog [(66,.slice (some ⟨wl.heap.size,0,none⟩) 1 1)] (Go.Op.convert 55 9 (Go.Operand.tmp 66)) 9 (sT (strOfNums ([65+(i:Int)]))) w36,RunsAs Tryz.prog [(67,sT (strOfNums ([65+(i:Int)])))] (Go.Op.binOp Go.BinOp.add 9 (Go.Operand.const (Go.Value.string { data:=#[110] })) (Go.Operand.tmp 67) 9) 9 (sT ((⟨#[110]⟩:ByteArray)++(strOfNums ([65+(i:Int)])))) w36] ⟨runs_conv rfl (conv_bytesC ([65+(i:Int)]) Tryz.underlying55 Tryz.underlying5 Tryz.underlying9 r41),runs_bin rfl rfl rfl (run_sadd (al_room _)),trivial⟩ ?_
   obtain⟨w42,w46,b43,k44,z45⟩:=new_world w36 #[s0,i6 0,i6 0] 31
   rw[w46]
   refine xst (.agg #[sT ((⟨#[110]⟩:ByteArray)++(strOfNums ([65+(i:Int)]))),i6 (pq 1000 (rd ps (i:Int))),i6 (IntKind.i64.wrap (Int.tdiv (pq 1000 (rd ps (i:Int))) 2))]) k44 0 #[sT ((⟨#[110]⟩:ByteArray)++(strOfNums ([65+(i:Int)]))),i6 (pq 1000 (rd ps (i:Int))),i6 (IntKind.i64.wrap (Int.tdiv (pq 1000 (rd ps (i:Int))) 2))] (fun w47 g48 k49 z50=>?_)
   have hne51:wl.heap.size≠w36.heap.size:=Blk.tne (Blk.below k38 b43) k44 rfl
   have k52:=Blk.other (Blk.below k38 b43) g48 hne51
   refine nl (sq (X_region ?_))
   have r54:kMark.R 31 w47 w28.heap.size (fun k_=>w28.heap.size≤k_∧k_<w47.heap.size) (aL A3 zs c3) zs:=Kd.R_mono (Kd.R_bound (Kd.R_below hr3 (bg (bt b37 b43) g48 (b37).size))) (fun k_ hk_=>⟨hk_.1,hk_.2.2.1⟩)
   refine xc 8 ent8 [] (MI.new _) ?_
   rintro e w59 ⟨g55,Q56,rfl,M57,b58⟩; refine⟨_,rfl,?_⟩
   have B61:Below wB.heap.size wB w47:=(bg (bt (bt HB_ b37) b43) g48 ((bt HB_ b37)).size)
   have M60:MI g55 wB.heap.size [] Q56 w59:=MI.low M57 (B61).size
   have d62:∀ k_,Q56 k_→¬Q18 k_:=fun k_ h1_ h2_=>absurd (hMx_.lt k_ h2_).2 (Nat.not_lt.2 (Nat.le_trans ((bg (bt b37 b43) g48 (b37).size)).size (M57.lt k_ h1_).1))
   have d63:∀ k_,Q56 k_→¬Q25 k_:=fun k_ h1_ h2_=>absurd (hMy_.lt k_ h2_).2 (Nat.not_lt.2 (Nat.le_trans ((bg (bt b37 b43) g48 (b37).size)).size (M57.lt k_ h1_).1))
   have hno64:¬Q56 wl.heap.size:=fun h_=>absurd (Nat.lt_of_lt_of_le (Blk.lt k52) (Nat.le_refl _)) (Nat.not_lt.2 (M57.lt _ h_).1)
   have hno65:¬Q56 w36.heap.size:=fun h_=>absurd (Nat.lt_of_lt_of_le (Blk.lt k49) (Nat.le_refl _)) (Nat.not_lt.2 (M57.lt _ h_).1)
   refine xr0 1 [(15,pw g55 0)] [72,73] ?_
   refine nl (sq (sg (xr 5 [(78,.load (.agg #[sT ((⟨#[110]⟩:ByteArray)++(strOfNums ([65+(i:Int)]))),i6 (pq 1000 (rd ps (i:Int))),i6 (IntKind.i64.wrap (Int.tdiv (pq 1000 (rd ps (i:Int))) 2))]))] [(76,bF),(77,pw g55 0),(78,.agg #[sT ((⟨#[110]⟩:ByteArray)++(strOfNums ([65+(i:Int)]))),i6 (pq 1000 (rd ps (i:Int))),i6 (IntKind.i64.wrap (Int.tdiv (pq 1000 (rd ps (i:Int))) 2))])] [] [la 31 (⟨w36.heap.size,0,none⟩) (.agg #[sT ((⟨#[110]⟩:ByteArray)++(strOfNums ([65+(i:Int)]))),i6 (pq 1000 (rd ps (i:Int))),i6 (IntKind.i64.wrap (Int.tdiv (pq 1000 (rd ps (i:Int))) 2))]) w59] ⟨loadsB rfl rfl (Blk.below k49 b58) 0 ⟨by kernel_rfl,by kernel_rfl⟩,trivial⟩ ?_)))
   have O71:=M60
   refine xc 15 ent15 [pw g55 0,.agg #[sT ((⟨#[110]⟩:ByteArray)++(strOfNums ([65+(i:Int)]))),i6 (pq 1000 (rd ps (i:Int))),i6 (IntKind.i64.wrap (Int.tdiv (pq 1000 (rd ps (i:Int))) 2))],i6 1000] (O71.set (mkI ps (i:Int)) 1000 (al_ks ps (by omega) (by omega)) (hT.below (bt B61 b58)) es (hE.below (bt B61 b58))) ?_
   rintro e w66 ⟨rfl,M67,C68⟩; refine⟨_,rfl,?_⟩
   have hlo72:Below wB.heap.size w59 w66:=C68.lo ((bt B61 b58)).size (fun g_ h_=>(O71.lt g_ h_).1)
   have k73:=C68.blk (Blk.below k52 b58) hno64
   have k74:=C68.blk (Blk.below k49 b58) hno65
   have B75:Below wl.heap.size wl w59:=(bt (bg (bt b37 b43) g48 (b37).size) b58)
   have O76:=(hMx_.below B75).far C68 (fun k_ h1_ h2_=>d62 k_ h2_ h1_)
   have O77:=(hMy_.below B75).far C68 (fun k_ h1_ h2_=>d63 k_ h2_ h1_)
   have r79:=C68.R (Kd.R_below r54 b58) (fun g_ h1_ h2_=>absurd (M57.lt g_ h2_).1 (Nat.not_le.2 h1_.2))
   rw[al_z ps (by omega) (by omega)]at M67
   rw[al_c ps (by omega) (by omega) (by decide),errV_zero]
   refine xr 5 [(84,.load (.agg #[sT ((⟨#[110]⟩:ByteArray)++(strOfNums ([65+(i:Int)]))),i6 (pq 1000 (rd ps (i:Int))),i6 (IntKind.i64.wrap (Int.tdiv (pq 1000 (rd ps (i:Int))) 2))]))] [(82,bF),(83,pw g17 0),(84,.agg #[sT ((⟨#[110]⟩:ByteArray)++(strOfNums ([65+(i:Int)]))),i6 (pq 1000 (rd ps (i:Int))),i6 (IntKind.i64.wrap (Int.tdiv (pq 1000 (rd ps (i:Int))) 2))])] [14,76,77,78,79] [la 31 (⟨w36.heap.size,0,none⟩) (.agg #[sT ((⟨#[110]⟩:ByteArray)++(strOfNums ([65+(i:Int)]))),i6 (pq 1000 (rd ps (i:Int))),i6 (IntKind.i64.wrap (Int.tdiv (pq 1000 (rd ps (i:Int))) 2))]) w66] ⟨loadsB rfl rfl k74 0 ⟨by kernel_rfl,by kernel_rfl⟩,trivial⟩ ?_
   have O85:=O76
   refine xc 15 ent15 [pw g17 0,.agg #[sT ((⟨#[110]⟩:ByteArray)++(strOfNums ([65+(i:Int)]))),i6 (pq 1000 (rd ps (i:Int))),i6 (IntKind.i64.wrap (Int.tdiv (pq 1000 (rd ps (i:Int))) 2))],i6 1000] (O85.set (mkI ps (i:Int)) 1000 (al_ks ps (by omega) (by omega)) (hT.below (Below.trans (bt B61 b58) hlo72)) es (hE.below (Below.trans (bt B61 b58) hlo72))) ?_
   rintro e w80 ⟨rfl,M81,C82⟩; refine⟨_,rfl,?_⟩
   have hlo86:Below wB.heap.size w66 w80:=C82.lo ((Below.trans (bt B61 b58) hlo72)).size (fun g_ h_=>(O85.lt g_ h_).1)
   have k87:=C82.blk k73 (fun h_=>absurd (M22.lt _ h_).2 (Nat.not_lt.2 (Nat.le_trans hxW_ hWl_)))
   have hno88:¬Q18 wl.heap.size:=(fun h_=>absurd (M22.lt _ h_).2 (Nat.not_lt.2 (Nat.le_trans hxW_ hWl_)))
   have k89:=C82.blk k74 (fun h_=>absurd (M22.lt _ h_).2 (Nat.not_lt.2 (Nat.le_trans (Nat.le_trans hxW_ hWl_) b37.size)))
   have hno90:¬Q18 w36.heap.size:=(fun h_=>absurd (M22.lt _ h_).2 (Nat.not_lt.2 (Nat.le_trans (Nat.le_trans hxW_ hWl_) b37.size)))
   have O91:=O77.far C82 (fun k_ h1_ h2_=>hdxy_ k_ h2_ h1_)
   have O92:=M67.far C82 d62
   have r94:=C82.R r79 (fun g_ h1_ h2_=>absurd (M22.lt g_ h2_).2 (Nat.not_lt.2 (Nat.le_trans hxW_ h1_.1)))
   rw[al_x ps (by omega)]at M81
   rw[al_c ps (by omega) (by omega) (by rw[alL_len]; omega),errV_zero]
   refine xr0 2 [(87,bF)] [82,83,84,85] ?_
   refine nl (cf (sk (sg (xr0 3 [(88,pw g55 0),(89,pw d6 0),(90,sT ((⟨#[110]⟩:ByteArray)++(strOfNums ([(65+pq 40 au)]))))] [87] ?_))))
   have B95:Below wB.heap.size wB w80:=(Below.trans (Below.trans (bt B61 b58) hlo72) hlo86)
   have O101:=O92
   refine xc 16 ent16 [pw g55 0,pw d6 0,sT ((⟨#[110]⟩:ByteArray)++(strOfNums ([(65+pq 40 au)])))] (O101.move d6 xs ((⟨#[110]⟩:ByteArray)++(strOfNums ([65+pq 40 au]))) ((hdC_.below B95)) hbd5 (by omega) hz (hT.below B95) es (hE.below B95) (B95).size) ?_
   rintro e w96 ⟨rfl,Q99,M97,N100,C98⟩; refine⟨_,rfl,?_⟩
   have hlo102:Below wB.heap.size w80 w96:=C98.lo (B95).size (fun g_ h_=>(O101.lt g_ h_).1)
   have hno104:¬Q99 wl.heap.size:=N100.no hno64 (Blk.lt k87)
   have hno106:¬Q99 w36.heap.size:=N100.no hno65 (Blk.lt k89)
   have O107:=M81.far C98 (fun k_ h1_ h2_=>d62 k_ h2_ h1_)
   have d108:=N100.apart d62 (fun k_ h_=>(M81.lt k_ h_).2)
   have O109:=O91.far C98 (fun k_ h1_ h2_=>d63 k_ h2_ h1_)
   have d110:=N100.apart d63 (fun k_ h_=>(O91.lt k_ h_).2)
   have r112:=C98.R r94 (fun g_ h1_ h2_=>absurd (M57.lt g_ h2_).1 (Nat.not_le.2 h1_.2))
   have hle9_:=mvE_le xs ((⟨#[110]⟩:ByteArray)++(strOfNums ([65+pq 40 au]))) [mkI ps (i:Int)]
   refine xe0 1 [(1,aL A1 ps c1),(7,pw d6 0),(8,sT ((⟨#[110]⟩:ByteArray)++(strOfNums ([(65+pq 40 au)])))),(9,pw g17 0),(10,pw g24 0),(11,aL A3 zs c3),(15,pw g55 0),(16,errV es (mvE xs ((⟨#[110]⟩:ByteArray)++(strOfNums ([65+pq 40 au]))) [mkI ps (i:Int)])),(52,aL A1 ps c1),(53,i6 (ps.length:Int)),(54,nv i)] ?_
   refine nl (sq (sg (xr0 1 [(92,errV es (mvE xs ((⟨#[110]⟩:ByteArray)++(strOfNums ([65+pq 40 au]))) [mkI ps (i:Int)]))] [] ?_)))
   by_cases c113:(mvE xs ((⟨#[110]⟩:ByteArray)++(strOfNums ([65+pq 40 au]))) [mkI ps (i:Int)])=0
   ·rw[show errV es (mvE xs ((⟨#[110]⟩:ByteArray)++(strOfNums ([65+pq 40 au]))) [mkI ps (i:Int)])=.nilIface from by rw[c113]; rfl]
    refine xr0 1 [(16,.nilIface),(93,bF)] [92] ?_
    refine nl (cf (sk (sg (xr0 1 [(98,pw g55 0)] [15,16,93] ?_))))
    have hok1_:=mvE_one c113
    rw[hok1_.2]at M97
    refine xc 22 ent22 [pw g55 0] (M97.all) ?_
    rintro e w118 ⟨A114,c115,rfl,l116,r117,b119⟩; refine⟨_,rfl,?_⟩
    have hr1_:kMark.R 31 w118 w96.heap.size (OkFrom w96.heap.size) (.slice A114 1 c115) [mvMk xs ((⟨#[110]⟩:ByteArray)++(strOfNums ([65+pq 40 au]))) (mkI ps (i:Int))]:=r117
    refine xr0 5 [(17,.slice A114 1 c115),(18,bT)] [98,99] ?_
    refine nl (sq (sg (xr0 7 [(108,bF)] [18] ?_)))
    refine nl (cf (sk (X_region ?_)))
    have r120:kMark.R 31 w118 w28.heap.size (OkFrom w28.heap.size) (aL A3 zs c3) zs:=Kd.R_mono (Kd.R_below r112 b119) (fun k_ h_=>h_.1)
    refine xe0 2 [(1,aL A1 ps c1),(7,pw d6 0),(8,sT ((⟨#[110]⟩:ByteArray)++(strOfNums ([(65+pq 40 au)])))),(9,pw g17 0),(10,pw g24 0),(52,aL A1 ps c1),(53,i6 (ps.length:Int)),(54,nv i),(109,aL A3 zs c3),(110,.slice A114 1 c115)] ?_
    obtain⟨ad121,a122,c123⟩:=Kd.atMark (Kd.R_C hr1_) (i:=(0:Int)) (by omega) (by omega)
    replace c123:CellsAt w118 (ad121.add ((0:Int).toNat*3)) [sT ((([mvMk xs ((⟨#[110]⟩:ByteArray)++(strOfNums ([65+pq 40 au]))) (mkI ps (i:Int))]).getD 0 mark0).1),i6 ((([mvMk xs ((⟨#[110]⟩:ByteArray)++(strOfNums ([65+pq 40 au]))) (mkI ps (i:Int))]).getD 0 mark0).2.1),i6 ((([mvMk xs ((⟨#[110]⟩:ByteArray)++(strOfNums ([65+pq 40 au]))) (mkI ps (i:Int))]).getD 0 mark0).2.2)]:=c123
    refine xw 3 [(111,.idx ad121),(112,.load (.agg #[sT ((([mvMk xs ((⟨#[110]⟩:ByteArray)++(strOfNums ([65+pq 40 au]))) (mkI ps (i:Int))]).getD 0 mark0).1),i6 ((([mvMk xs ((⟨#[110]⟩:ByteArray)++(strOfNums ([65+pq 40 au]))) (mkI ps (i:Int))]).getD 0 mark0).2.1),i6 ((([mvMk xs ((⟨#[110]⟩:ByteArray)++(strOfNums ([65+pq 40 au]))) (mkI ps (i:Int))]).getD 0 mark0).2.2)]))] [(113,.slice (some ⟨w118.heap.size,0,none⟩) 1 1)] [110] (w118.alloc (.cells #[sT ((([mvMk xs ((⟨#[110]⟩:ByteArray)++(strOfNums ([65+pq 40 au]))) (mkI ps (i:Int))]).getD 0 mark0).1),i6 ((([mvMk xs ((⟨#[110]⟩:ByteArray)++(strOfNums ([65+pq 40 au]))) (mkI ps (i:Int))]).getD 0 mark0).2.1),i6 ((([mvMk xs ((⟨#[110]⟩:ByteArray)++(strOfNums ([65+pq 40 au]))) (mkI ps (i:Int))]).getD 0 mark0).2.2)] 31)) [A114=some ad121,(0:Int)≤0,0<(1:Int),la 31 (ad121.add ((0:Int).toNat*3)) (.agg #[sT ((([mvMk xs ((⟨#[110]⟩:ByteArray)++(strOfNums ([65+pq 40 au]))) (mkI ps (i:Int))]).getD 0 mark0).1),i6 ((([mvMk xs ((⟨#[110]⟩:ByteArray)++(strOfNums ([65+pq 40 au]))) (mkI ps (i:Int))]).getD 0 mark0).2.1),i6 ((([mvMk xs ((⟨#[110]⟩:ByteArray)++(strOfNums ([65+pq 40 au]))) (mkI ps (i:Int))]).getD 0 mark0).2.2)]) w118] ⟨a122,(by omega),(by omega),loadsE rfl rfl c123 0 ⟨by kernel_rfl,by kernel_rfl⟩,trivial⟩ ?_
    obtain⟨w124,w128,b125,k126,z127⟩:=new_world w118 #[sT ((([mvMk xs ((⟨#[110]⟩:ByteArray)++(strOfNums ([65+pq 40 au]))) (mkI ps (i:Int))]).getD 0 mark0).1),i6 ((([mvMk xs ((⟨#[110]⟩:ByteArray)++(strOfNums ([65+pq 40 au]))) (mkI ps (i:Int))]).getD 0 mark0).2.1),i6 ((([mvMk xs ((⟨#[110]⟩:ByteArray)++(strOfNums ([65+pq 40 au]))) (mkI ps (i:Int))]).getD 0 mark0).2.2)] 31
    rw[w128]
    rw[←w128]
    refine XL_append kMark rfl rfl rfl w28.heap.size 31 (.agg #[s0,i6 0,i6 0]) 32 Tryz.underlying27 info31 rfl (by decide) (by omega) zs (([mvMk xs ((⟨#[110]⟩:ByteArray)++(strOfNums ([65+pq 40 au]))) (mkI ps (i:Int))]).getD 0 mark0) [sT ((([mvMk xs ((⟨#[110]⟩:ByteArray)++(strOfNums ([65+pq 40 au]))) (mkI ps (i:Int))]).getD 0 mark0).1),i6 ((([mvMk xs ((⟨#[110]⟩:ByteArray)++(strOfNums ([65+pq 40 au]))) (mkI ps (i:Int))]).getD 0 mark0).2.1),i6 ((([mvMk xs ((⟨#[110]⟩:ByteArray)++(strOfNums ([65+pq 40 au]))) (mkI ps (i:Int))]).getD 0 mark0).2.2)] (fun _=>False) (by kernel_rfl) (kMark_M _ _ _ _) (fun _ h=>h.elim) r120 (Nat.le_trans (Nat.le_trans hyW_ hWl_) (Nat.le_trans (Nat.le_trans (Nat.le_trans (Nat.le_trans (Nat.le_trans (Nat.le_trans (Nat.le_trans b37.size b43.size) g48.size) b58.size) hlo72.size) hlo86.size) hlo102.size) b119.size)) (by first|omega|(simp; omega)) ?_
    intro A129 c130 w131 r132 c133 g134 l135 a136
    have e139:(zs++[(([mvMk xs ((⟨#[110]⟩:ByteArray)++(strOfNums ([65+pq 40 au]))) (mkI ps (i:Int))]).getD 0 mark0)])=((alL ps (i+1)).map (mvMk xs ((⟨#[110]⟩:ByteArray)++(strOfNums ([65+pq 40 au]))))):=by rw[he3,alL_succ,List.map_append]; rfl
    rw[e139]at r132 ⊢
    refine xr0 1 [(11,aL A129 ((alL ps (i+1)).map (mvMk xs ((⟨#[110]⟩:ByteArray)++(strOfNums ([65+pq 40 au]))))) c130)] [109,113,114] ?_
    refine nl (rg (xr1 2 [(115,.eq (i6 ((i:Int)+1)))] [(54,i6 ((i:Int)+1))] [] (w6 ((i:Int)+1)) ?_))
    refine nl ?_
    have O140:=((O107.below b119).far (Chg.grown (S:=fun k_=>A3.map (·.block)=some k_) g134 (fun _ e_=>e_)) (fun k_ h1_ h2_=>absurd (M22.lt k_ h1_).2 (Nat.not_lt.2 (Nat.le_trans hxW_ (l135 k_ h2_)))))
    have O141:=((O109.below b119).far (Chg.grown (S:=fun k_=>A3.map (·.block)=some k_) g134 (fun _ e_=>e_)) (fun k_ h1_ h2_=>absurd (M29.lt k_ h1_).2 (Nat.not_lt.2 (Nat.le_trans (Nat.le_refl _) (l135 k_ h2_)))))
    have B142:Below wB.heap.size wB w131:=(bgo (bt (Below.trans B95 hlo102) b119) g134 l135 ((bt (bt b12 b20) b27)).size)
    refine⟨(i+1,A129,c130,((alL ps (i+1)).map (mvMk xs ((⟨#[110]⟩:ByteArray)++(strOfNums ([65+pq 40 au])))))),by kernel_rfl,?_,?_⟩
    ·exact⟨by omega,rfl,fun t_ ht_=>by by_cases e_:t_=i; (· rw[e_]; exact hok1_.1); (· exact hok t_ (by omega)),O140,O141,r132,B142,(Nat.le_trans hWl_ (Nat.le_trans (Nat.le_trans (Nat.le_trans (Nat.le_trans (Nat.le_trans (Nat.le_trans (Nat.le_trans (Nat.le_trans b37.size b43.size) g48.size) b58.size) hlo72.size) hlo86.size) hlo102.size) b119.size) g134.size))⟩
    (try dsimp only); omega
   rw[errV_pos es (mvE xs ((⟨#[110]⟩:ByteArray)++(strOfNums ([65+pq 40 au]))) [mkI ps (i:Int)]) (Nat.pos_of_ne_zero c113)]
   refine xr0 1 [(16,.iface 208 (.pointer (some (errAt es (mvE xs ((⟨#[110]⟩:ByteArray)++(strOfNums ([65+pq 40 au]))) [mkI ps (i:Int)]))))),(93,bT)] [92] ?_
   refine nl (ct (sg (xe0 1 [(94,.iface 208 (.pointer (some (errAt es (mvE xs ((⟨#[110]⟩:ByteArray)++(strOfNums ([65+pq 40 au]))) [mkI ps (i:Int)])))))] ?_)))
   refine xc 21 ent21 [.iface 208 (.pointer (some (errAt es (mvE xs ((⟨#[110]⟩:ByteArray)++(strOfNums ([65+pq 40 au]))) [mkI ps (i:Int)]))))] (num_err es (mvE xs ((⟨#[110]⟩:ByteArray)++(strOfNums ([65+pq 40 au]))) [mkI ps (i:Int)]) (by omega) (by omega) _ (hE9.below (Below.trans B95 hlo102))) ?_
   rintro e w143 ⟨rfl,b144⟩; refine⟨_,rfl,?_⟩
   by_cases c145:((mvE xs ((⟨#[110]⟩:ByteArray)++(strOfNums ([65+pq 40 au]))) [mkI ps (i:Int)]):Int)=11
   ·refine xe1 2 [(96,.eq bT)] [(6,bT)] (bE c145) ?_
    refine nl (X_ret (rj [bT] hR_ ?_))
    have B146:Below w0.heap.size w0 w143:=(bt (bt b2 b3) (bt (Below.trans B95 hlo102) b144))
    exact⟨rfl,B146⟩
   exact absurd (by rw[mvE_no c113]; rfl) c145
  refine xr1 1 [(55,.eq bF)] [(55,bF)] [] (dF c32) ?_
  refine nl (sq (cf (X_exit (sq (sg (xr1 4 [(118,.eq (i6 ((ps.length:Int)-1)))] [(19,i6 ((ps.length:Int)-1))] [52,53,54,55] (w6 ((ps.length:Int)-1)) ?_))))))
  refine nl (X_block ?_)
  have hin_:i=ps.length:=by omega
  have hz_:((alL ps ps.length).map (mvMk xs ((⟨#[110]⟩:ByteArray)++(strOfNums ([65+pq 40 au])))))=zs:=by rw[he3,hin_]
  have hmv_:=al_mv (xs:=xs) (au:=((⟨#[110]⟩:ByteArray)++(strOfNums ([65+pq 40 au])))) (ps:=ps) (n:=ps.length) (fun t_ ht_=>hok t_ (by omega))
  have hMx9_:MI g17 wB.heap.size (alL ps ps.length) Q18 wl:=by rw[←hin_]; exact hMx_
  have hMy9_:MI g24 wB.heap.size (alR ps ps.length ps.length) Q25 wl:=by rw[alR_end]; exact hMy_
  have hWW_:w28.heap.size≤wl.heap.size:=(Nat.le_trans hyW_ hWl_)
  refine X_loop (ι:=Nat×Int) (fun⟨j,u⟩=>[(1,aL A1 ps c1),(7,pw d6 0),(8,sT ((⟨#[110]⟩:ByteArray)++(strOfNums ([(65+pq 40 au)])))),(9,pw g17 0),(10,pw g24 0),(11,aL A3 zs c3),(19,i6 u)]) (fun⟨j,u⟩ wm=>j≤ps.length∧u=(j:Int)-1∧MI g17 wB.heap.size (alL ps ps.length) Q18 wm∧MI g24 wB.heap.size (alR ps ps.length j) Q25 wm∧kMark.R 31 wm w28.heap.size (OkFrom w28.heap.size) (aL A3 zs c3) zs∧Below wB.heap.size wB wm∧wl.heap.size≤wm.heap.size) (fun⟨j,u⟩=>j) (ps.length,(ps.length:Int)-1) ⟨Nat.le_refl _,rfl,hMx9_,hMy9_,hr3,HB_,Nat.le_refl _⟩ (by kernel_rfl) ?_
  rintro⟨j,u⟩ wm ⟨hj_,hu_,hMx2_,hMy2_,hr4,HB2_,hWm_⟩
  have hpq_:=pq_bd (n:=1000) (x:=rd ps u) (by omega)
  refine sq (sg (xr0 1 [(119,i6 u)] [] ?_))
  by_cases c147:u≥0
  ·refine xr1 1 [(120,.eq bT)] [(120,bT)] [119] (dT c147) ?_
   refine nl (ct (sk (sq (bk (sg (xr0 2 [(123,aL A1 ps c1),(124,i6 u)] [120] ?_))))))
   obtain⟨ad148,a149,c150⟩:=Kd.atI (Kd.C_below hp (bt (bt b2 b3) HB2_)) (i:=u) (by omega) (by omega)
   refine xr 6 [(125,.idx ad148),(126,.load (i6 (rd ps u))),(129,.eq (i6 (pq 1000 (rd ps u))))] [(20,i6 (pq 1000 (rd ps u)))] [123,124] [A1=some ad148,(0:Int)≤u,u<(ps.length:Int),la 3 (ad148.add (u.toNat*1)) (i6 (rd ps u)) wm,i6 (IntKind.i64.wrap (Int.tmod (IntKind.u64.wrap (rd ps u)) 1000))=i6 (pq 1000 (rd ps u))] ⟨a149,(by omega),(by omega),loads1 rfl (elem_cell c150 0 _ rfl),pq_cv _ (by omega) (by omega),trivial⟩ ?_
   refine nl (sg (xw 5 [(132,.eq (i6 (65+u))),(133,.eq (.int .u8 (65+u)))] [(130,pw g24 0),(134,.slice (some ⟨wm.heap.size,0,none⟩) 1 1)] [] (wm.alloc (.cells #[.int .u8 (65+u)] 5)) [_,Value.int .u8 (IntKind.u8.wrap (65+u))=Value.int .u8 (65+u)] ⟨w6 (65+u),wr_u8 (by omega) (by omega),trivial⟩ ?_))
   obtain⟨w151,w155,b152,k153,z154⟩:=new_world wm #[.int .u8 (65+u)] 5
   rw[w155]
   have r156:=Kd.R_litB (Kd.int .u8) (W:=wm) (e:=5) (cs:=#[.int .u8 (65+u)]) [65+u] k153 (repsInt [65+u]) (Nat.le_of_ble_eq_true (by kernel_rfl))
   refine xe 6 [(135,.as (sT (strOfNums ([65+u])))),(136,.as (sT ((⟨#[110]⟩:ByteArray)++(strOfNums ([65+u])))))] [(1,aL A1 ps c1),(7,pw d6 0),(8,sT ((⟨#[110]⟩:ByteArray)++(strOfNums ([(65+pq 40 au)])))),(9,pw g17 0),(10,pw g24 0),(11,aL A3 zs c3),(19,i6 u),(130,pw g24 0),(140,.agg #[sT ((⟨#[110]⟩:ByteArray)++(strOfNums ([65+u]))),i6 (pq 1000 (rd ps u)),i6 (IntKind.i64.wrap (Int.tdiv (pq 1000 (rd ps u)) 2))])] [RunsAs Tryz.prog [(134,.slice (some ⟨wm.heap.size,0,none⟩) 1 1)] (Go.Op.convert 55 9 (Go.Operand.tmp 134)) 9 (sT (strOfNums ([65+u]))) w151,RunsAs Tryz.prog [(135,sT (strOfNums ([65+u])))] (Go.Op.binOp Go.BinOp.add 9 (Go.Operand.const (Go.Value.string { data:=#[110] })) (Go.Operand.tmp 135) 9) 9 (sT ((⟨#[110]⟩:ByteArray)++(strOfNums ([65+u])))) w151] ⟨runs_conv rfl (conv_bytesC ([65+u]) Tryz.underlying55 Tryz.underlying5 Tryz.underlying9 r156),runs_bin rfl rfl rfl (run_sadd (al_room _)),trivial⟩ ?_
   have hst_:=al_y (n:=ps.length) (j:=j) ps hu_ (by omega) hj_ hpn_
   have O162:=(hMy2_.below b152)
   refine xc 15 ent15 [pw g24 0,.agg #[sT ((⟨#[110]⟩:ByteArray)++(strOfNums ([65+u]))),i6 (pq 1000 (rd ps u)),i6 (IntKind.i64.wrap (Int.tdiv (pq 1000 (rd ps u)) 2))],i6 1000] (O162.set (mkI ps u) 1000 (al_ks ps (by omega) (by omega)) (hT.below (bt HB2_ b152)) es (hE.below (bt HB2_ b152))) ?_
   rintro e w157 ⟨rfl,M158,C159⟩; refine⟨_,rfl,?_⟩
   have hlo163:Below wB.heap.size w151 w157:=C159.lo ((bt HB2_ b152)).size (fun g_ h_=>(O162.lt g_ h_).1)
   have hno165:¬Q25 wm.heap.size:=(fun h_=>absurd (M29.lt _ h_).2 (Nat.not_lt.2 (Nat.le_trans (Nat.le_trans hyW_ hWW_) hWm_)))
   have O166:=(hMx2_.below b152).far C159 hdxy_
   have r169:=C159.R (Kd.R_below hr4 b152) (fun g_ h1_ h2_=>absurd (M29.lt g_ h2_).2 (Nat.not_lt.2 (Nat.le_trans (Nat.le_refl _) h1_)))
   rw[hst_.2]at M158
   rw[hst_.1,errV_zero]
   refine xr0 1 [(142,bF)] [130,140,141] ?_
   refine nl (cf (sk (rg (xr1 3 [(122,.eq (i6 (u-1)))] [(19,i6 (u-1))] [142] (w6 (u-1)) ?_))))
   refine nl ?_
   refine⟨(j-1,u-1),by kernel_rfl,?_,?_⟩
   ·exact⟨by omega,by omega,O166,M158,r169,(Below.trans (bt HB2_ b152) hlo163),(Nat.le_trans hWm_ (Nat.le_trans b152.size hlo163.size))⟩
   (try dsimp only); omega
  refine xr1 1 [(120,.eq bF)] [(120,bF)] [119] (dF c147) ?_
  refine nl (cf (X_exit (sq (sq (X_region ?_)))))
  have hj0_:j=0:=by omega
  have O170:MI g24 wB.heap.size (alR ps ps.length 0) Q25 wm:=by rw[←hj0_]; exact hMy2_
  refine xr0 3 [(143,pw g17 0),(144,pw d6 0),(145,sT ((⟨#[110]⟩:ByteArray)++(strOfNums ([(65+pq 40 au)]))))] [1,19,120] ?_
  have O176:=hMx2_
  refine xc 16 ent16 [pw g17 0,pw d6 0,sT ((⟨#[110]⟩:ByteArray)++(strOfNums ([(65+pq 40 au)])))] (O176.move d6 xs ((⟨#[110]⟩:ByteArray)++(strOfNums ([65+pq 40 au]))) ((hdC_.below HB2_)) hbd5 (by omega) hz (hT.below HB2_) es (hE.below HB2_) (HB2_).size) ?_
  rintro e w171 ⟨rfl,Q174,M172,N175,C173⟩; refine⟨_,rfl,?_⟩
  have hlo177:Below wB.heap.size wm w171:=C173.lo (HB2_).size (fun g_ h_=>(O176.lt g_ h_).1)
  have O178:=O170.far C173 (fun k_ h1_ h2_=>hdxy_ k_ h2_ h1_)
  have d179:=N175.apart hdxy_ (fun k_ h_=>(O170.lt k_ h_).2)
  have r181:=C173.R hr4 (fun g_ h1_ h2_=>absurd (M22.lt g_ h2_).2 (Nat.not_lt.2 (Nat.le_trans hxW_ h1_)))
  rw[hmv_.2,hz_]at M172
  rw[hmv_.1,errV_zero]
  refine xr0 5 [(148,bF),(149,pw g24 0),(150,pw d6 0),(151,sT ((⟨#[110]⟩:ByteArray)++(strOfNums ([(65+pq 40 au)]))))] [7,8,143,144,145,146] ?_
  have O187:=O178
  refine xc 16 ent16 [pw g24 0,pw d6 0,sT ((⟨#[110]⟩:ByteArray)++(strOfNums ([(65+pq 40 au)])))] (O187.move d6 xs ((⟨#[110]⟩:ByteArray)++(strOfNums ([65+pq 40 au]))) ((hdC_.below (Below.trans HB2_ hlo177))) hbd5 (by omega) hz (hT.below (Below.trans HB2_ hlo177)) es (hE.below (Below.trans HB2_ hlo177)) ((Below.trans HB2_ hlo177)).size) ?_
  rintro e w182 ⟨rfl,Q185,M183,N186,C184⟩; refine⟨_,rfl,?_⟩
  have hlo188:Below wB.heap.size w171 w182:=C184.lo ((Below.trans HB2_ hlo177)).size (fun g_ h_=>(O187.lt g_ h_).1)
  have O189:=M172.far C184 d179
  have d190:=N186.apart (fun k_ h1_ h2_=>d179 k_ h2_ h1_) (fun k_ h_=>(M172.lt k_ h_).2)
  have r192:=C184.R r181 (fun g_ h1_ h2_=>absurd (M29.lt g_ h2_).2 (Nat.not_lt.2 (Nat.le_trans (Nat.le_refl _) h1_)))
  rw[alR_zero]at M183 ⊢
  rw[hmv_.2,hz_]at M183
  rw[hmv_.1,errV_zero]
  refine xr0 2 [(154,bF)] [148,149,150,151,152] ?_
  refine nl (cf (sk (sg (xe0 1 [(10,pw g24 0),(11,aL A3 zs c3),(156,pw g17 0)] ?_))))
  refine xc 22 ent22 [pw g17 0] (O189.all) ?_
  rintro e w197 ⟨A193,c194,rfl,l195,r196,b198⟩; refine⟨_,rfl,?_⟩
  refine xr0 5 [(21,aL A193 zs c194),(22,bT)] [156,157] ?_
  refine nl (sg (xr0 1 [(161,pw g24 0)] [10] ?_))
  refine xc 22 ent22 [pw g24 0] ((M183.below b198).all) ?_
  rintro e w203 ⟨A199,c200,rfl,l201,r202,b204⟩; refine⟨_,rfl,?_⟩
  refine xr0 5 [(23,aL A199 zs c200),(24,bT)] [161,162] ?_
  refine nl (sg (xr0 7 [(169,bT),(170,aL A193 zs c194),(171,aL A3 zs c3)] [21,22,24] ?_))
  refine xc 23 ent23 [.slice A193 zs.length c194,aL A3 zs c3] (same23_any _ _ _ _ zs _ (Kd.R_C (Kd.R_below r196 b204)) (Kd.R_C (Kd.R_below r192 (bt b198 b204))) (by omega)) ?_
  rintro e w205 ⟨rfl,b206⟩; refine⟨_,rfl,?_⟩
  refine xe0 4 [(174,bT),(175,aL A199 zs c200),(176,aL A3 zs c3)] ?_
  refine xc 23 ent23 [.slice A199 zs.length c200,aL A3 zs c3] (same23_any _ _ _ _ zs _ (Kd.R_C (Kd.R_below r202 b206)) (Kd.R_C (Kd.R_below r192 (bt (bt b198 b204) b206))) (by omega)) ?_
  rintro e w207 ⟨rfl,b208⟩; refine⟨_,rfl,?_⟩
  refine xe0 2 [(6,bT)] ?_
  refine nl (X_ret (rj [bT] hR_ ?_))
  have B209:Below wB.heap.size wB w207:=(bt (bt (bt (bt (Below.trans (Below.trans HB2_ hlo177) hlo188) b198) b204) b206) b208)
  exact⟨rfl,(bt (bt b2 b3) B209)⟩
 refine⟨_,rfl,?_⟩
 refine xr0 1 [(7,.pointer none)] [27,28] ?_
 refine nl (sq (sg (xr0 7 [(35,bT)] [] ?_)))
 refine nl (ct (sg (xe0 1 [(6,bT)] ?_)))
 refine nl (X_ret (rj [bT] hR_ ?_))
 exact⟨rfl,(bt b2 b3)⟩
end Go.Proofs.YtlnnjfdonilgmaaGreatDoor
