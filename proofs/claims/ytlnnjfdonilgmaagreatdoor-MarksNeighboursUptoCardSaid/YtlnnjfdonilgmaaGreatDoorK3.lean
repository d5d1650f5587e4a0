/- Marks: New, name, Len, Get, Drop, Set. Conditions: sizes, the tables of utf8, the errors' variables. -/
import Derived.Test.YtlnnjfdonilgmaaGreatDoorK2
import Derived.Test.YtlnnjfdonilgmaaGreatDoorA1
set_option linter.unusedVariables false
set_option linter.unusedSimpArgs false
set_option maxRecDepth 100000
namespace Go.Proofs.YtlnnjfdonilgmaaGreatDoor
open Go Go.RowKit Go.Proofs.YtlnnjfdonilgmaaGreatDoorW.PrintWords RX
theorem ent8 :Ent Tryz.prog 8:=ent_of Tryz.func8 (by kernel_rfl) rfl
theorem ent34 :Ent Tryz.prog 34:=ent_of Tryz.func34 (by kernel_rfl) rfl
theorem ent26 :Ent Tryz.prog 26:=ent_of Tryz.func26 (by kernel_rfl) rfl
theorem ent17 :Ent Tryz.prog 17:=ent_of Tryz.func17 (by kernel_rfl) rfl
theorem ent25 :Ent Tryz.prog 25:=ent_of Tryz.func25 (by kernel_rfl) rfl
theorem ent15 :Ent Tryz.prog 15:=ent_of Tryz.func15 (by kernel_rfl) rfl
abbrev ErrsM (w:World)(es:List Addr):Prop:=ErrsOn [1,5,6,7,8,9,10,11,12,16] w es
theorem zMark (w:World):(zeroValue 31).run Tryz.prog w=.ok (mV mark0) w:=by kernel_rfl
theorem keyS {s:ByteArray}(h:s.size≤9223372036854775807):keyOf Tryz.prog 9 (sT s)=some (mK s):=Go.WideMaps.keyOf_string_mk Tryz.underlying9 (Nat.le_trans h (by decide))
theorem mL_len (ms:List MarkA):(mL ms).length=ms.length:=List.length_map ..
theorem mnew_any (w:World):Calls Tryz.prog 8 #[] w fun e w'=>∃ g B,e=.returned (pw g 0)∧w.heap.size≤g∧w.heap.size≤B∧RX.Blk w' g 73 #[.map (some B)]∧MapL Tryz.prog 9 markR w' B (mL [])∧Below w.heap.size w w':=by
 refine en Tryz.func8 rfl 4 [] (fun R_ hR_=>?_)
 refine sg (xe0 1 [] ?_)
 refine nl (sg (XL_mapMake rfl rfl rfl (fun w1 b2 s3 M4=>?_)))
 have M5:MapL Tryz.prog 9 markR w1 w.heap.size (mL []):=M4 9 markR
 refine xwe 2 [] [(3,pw w1.heap.size 0)] (w1.alloc (.cells #[.map (some w.heap.size)] 73)) [] trivial ?_
 obtain⟨w_6,w10,b7,k8,z9⟩:=new_world w1 #[.map (some w.heap.size)] 73
 rw[w10]
 refine xe0 1 [(0,pw w1.heap.size 0)] ?_
 refine nl (X_ret (rj [pw w1.heap.size 0] hR_ ?_))
 exact⟨_,_,rfl,(b2).size,(Nat.le_refl _),k8,(MapL.below M5 b7),(bt b2 b7)⟩
theorem mname_any (s:ByteArray)(w:World)(hs:s.size≤9223372036854775807)(hT:Tabs w)(es:List Addr)(hE:ErrsM w es):Rt 34 #[sT s] w (.bool (decide (nmOk s))):=by
 refine en Tryz.func34 rfl 22 [(0,sT s)] (fun R_ hR_=>?_)
 refine sg (xe0 1 [(0,sT s)] ?_)
 refine nl (sg (xr0 1 [(6,sT s)] [] ?_))
 refine xc 49 ent49 [sT s] (scheck_any s _ (by omega) (hT.below (Below.refl _ _)) es ((hE.sub (by decide):ErrsA w es).below (Below.refl _ _))) ?_
 rintro e w1 ⟨rfl,b2⟩; refine⟨_,rfl,?_⟩
 refine xr0 5 [(4,errV es (if (uchk s).2=true then 0 else 1))] [6,7] ?_
 refine nl (sg (xr0 1 [(10,errV es (if (uchk s).2=true then 0 else 1))] [4] ?_))
 by_cases c3:(if (uchk s).2=true then 0 else 1)=0
 ·rw[show errV es (if (uchk s).2=true then 0 else 1)=.nilIface from by rw[c3]; rfl]
  refine xr0 4 [(12,bT),(14,i6 (s.size:Int))] [10] ?_
  by_cases c4:(s.size:Int)≥1
  ·refine xe1 5 [(15,.eq bT)] [(17,bT),(19,i6 (s.size:Int))] (dT c4) ?_
   by_cases c5:(s.size:Int)≤64
   ·refine xe1 3 [(20,.eq bT)] [(2,bT)] (dT c5) ?_
    refine nl (X_ret (rj [bT] hR_ ?_))
    rw[show decide (nmOk s)=true from decide_eq_true ⟨by omega,by omega,by have h_:=c3; by_cases h2_:(uchk s).2=true; (· exact h2_); (· rw[if_neg h2_]at h_; omega)⟩]
    exact⟨rfl,b2⟩
   refine xe1 3 [(20,.eq bF)] [(2,bF)] (dF c5) ?_
   refine nl (X_ret (rj [bF] hR_ ?_))
   rw[show decide (nmOk s)=false from decide_eq_false (fun h_=>by obtain⟨h1_,h2_,h3_⟩:=h_; first|omega|(have h4_:=c3; rw[if_pos h3_]at h4_; omega))]
   exact⟨rfl,b2⟩
  refine xe1 8 [(15,.eq bF)] [(2,bF)] (dF c4) ?_
  refine nl (X_ret (rj [bF] hR_ ?_))
  rw[show decide (nmOk s)=false from decide_eq_false (fun h_=>by obtain⟨h1_,h2_,h3_⟩:=h_; first|omega|(have h4_:=c3; rw[if_pos h3_]at h4_; omega))]
  exact⟨rfl,b2⟩
 rw[errV_pos es (if (uchk s).2=true then 0 else 1) (Nat.pos_of_ne_zero c3)]
 refine xe0 12 [(2,bF)] ?_
 refine nl (X_ret (rj [bF] hR_ ?_))
 rw[show decide (nmOk s)=false from decide_eq_false (fun h_=>by obtain⟨h1_,h2_,h3_⟩:=h_; first|omega|(have h4_:=c3; rw[if_pos h3_]at h4_; omega))]
 exact⟨rfl,b2⟩
theorem mlen23_any (gm B:Nat)(ms:List MarkA)(w:World)(hk:RX.Blk w gm 73 #[.map (some B)])(hM:MapL Tryz.prog 9 markR w B (mL ms))(hn:ms.length≤1000):Rt 26 #[pw gm 0] w (i6 (ms.length:Int)):=by
 refine en Tryz.func26 rfl 8 [(0,pw gm 0)] (fun R_ hR_=>?_)
 refine sg (xe0 1 [(0,pw gm 0)] ?_)
 refine nl (sg (xe 6 [(6,.load (.map (some B))),(7,.as (i6 (ms.length:Int)))] [(2,i6 (ms.length:Int))] [_,RunsAs Tryz.prog [(6,.map (some B))] (Go.Op.call { callee:=(Go.Callee.builtin Go.Builtin.len),args:=#[(Go.Operand.tmp 6)],argTypes:=#[71] }) 3 (i6 (ms.length:Int)) w] ⟨lc 71 hk 0,runs_mapLen rfl Tryz.underlying71 hM,trivial⟩ ?_))
 refine nl (X_ret (rj [i6 (ms.length:Int)] hR_ ?_))
 exact⟨rfl,(Below.refl _ _)⟩
theorem mget_any (gm B:Nat)(ms:List MarkA)(k:ByteArray)(w:World)(hk:RX.Blk w gm 73 #[.map (some B)])(hM:MapL Tryz.prog 9 markR w B (mL ms))(hn:ms.length≤1000)(hks:k.size≤9223372036854775807)(hT:Tabs w)(es:List Addr)(hE:ErrsM w es):Rt 17 #[pw gm 0,sT k] w (.tuple #[mV (gMk ms k),errV es (dCode ms k)]):=by
 refine en Tryz.func17 rfl 22 [(0,pw gm 0),(1,sT k)] (fun R_ hR_=>?_)
 refine sg (xwe 1 [] [(0,pw gm 0),(1,sT k),(4,pw w.heap.size 0)] (w.alloc (.cells #[s0,i6 0,i6 0] 31)) [] trivial ?_)
 obtain⟨w1,w5,b2,k3,z4⟩:=new_world w #[s0,i6 0,i6 0] 31
 rw[w5]
 refine xr0 1 [] [] ?_
 refine nl (sq (X_region ?_))
 by_cases c6:mIn ms k
 ·refine xw 10 [(12,.load (.map (some B))),(14,.as (.tuple #[.agg #[sT ((ms.getD (mIx ms k) mark0).1),i6 ((ms.getD (mIx ms k) mark0).2.1),i6 ((ms.getD (mIx ms k) mark0).2.2)],bT]))] [(6,pw w1.heap.size 0),(15,.agg #[sT ((ms.getD (mIx ms k) mark0).1),i6 ((ms.getD (mIx ms k) mark0).2.1),i6 ((ms.getD (mIx ms k) mark0).2.2)]),(16,bT)] [0,1] (w1.alloc (.cells #[s0,i6 0,i6 0] 31)) [_,RunsAs Tryz.prog [(12,.map (some B)),(13,sT k)] (Go.Op.lookup 71 (Go.Operand.tmp 12) (Go.Operand.tmp 13) true) 89 (.tuple #[.agg #[sT ((ms.getD (mIx ms k) mark0).1),i6 ((ms.getD (mIx ms k) mark0).2.1),i6 ((ms.getD (mIx ms k) mark0).2.2)],bT]) w1] ⟨lc 71 (Blk.below hk b2) 0,runs_look (c:=true) rfl rfl (look_in true (Maps.string_keyed Tryz.underlying9) Tryz.underlying71 zMark (keyS (by omega)) (MapL.below hM b2) c6),trivial⟩ ?_
  obtain⟨w7,w11,b8,k9,z10⟩:=new_world w1 #[s0,i6 0,i6 0] 31
  rw[w11]
  refine xst (.agg #[sT ((ms.getD (mIx ms k) mark0).1),i6 ((ms.getD (mIx ms k) mark0).2.1),i6 ((ms.getD (mIx ms k) mark0).2.2)]) k9 0 #[sT ((ms.getD (mIx ms k) mark0).1),i6 ((ms.getD (mIx ms k) mark0).2.1),i6 ((ms.getD (mIx ms k) mark0).2.2)] (fun w12 g13 k14 z15=>?_)
  refine xr0 1 [(7,bT)] [15,16] ?_
  refine nl (sq (sg (xr0 2 [(18,bF)] [7] ?_)))
  refine nl (cf (sk (sg (xr 1 [(21,.load (.agg #[sT ((ms.getD (mIx ms k) mark0).1),i6 ((ms.getD (mIx ms k) mark0).2.1),i6 ((ms.getD (mIx ms k) mark0).2.2)]))] [(21,.agg #[sT ((ms.getD (mIx ms k) mark0).1),i6 ((ms.getD (mIx ms k) mark0).2.1),i6 ((ms.getD (mIx ms k) mark0).2.2)])] [6,18] [la 31 (⟨w1.heap.size,0,none⟩) (.agg #[sT ((ms.getD (mIx ms k) mark0).1),i6 ((ms.getD (mIx ms k) mark0).2.1),i6 ((ms.getD (mIx ms k) mark0).2.2)]) w12] ⟨loadsB rfl rfl k14 0 ⟨by kernel_rfl,by kernel_rfl⟩,trivial⟩ ?_))))
  refine xst (.agg #[sT ((ms.getD (mIx ms k) mark0).1),i6 ((ms.getD (mIx ms k) mark0).2.1),i6 ((ms.getD (mIx ms k) mark0).2.2)]) (Blk.below k3 (bg b8 g13 (Nat.le_refl _))) 0 #[sT ((ms.getD (mIx ms k) mark0).1),i6 ((ms.getD (mIx ms k) mark0).2.1),i6 ((ms.getD (mIx ms k) mark0).2.2)] (fun w18 g19 k20 z21=>?_)
  refine xe0 1 [(4,pw w.heap.size 0),(5,.nilIface)] ?_
  refine nl (X_ret (RX.ret_cellT (P:=Tryz.prog) (fn:=Tryz.f17) (N:=22) (R:=R_) (c:=4) (t:=31) (p:=⟨w.heap.size,0,none⟩) (v:=.agg #[sT ((ms.getD (mIx ms k) mark0).1),i6 ((ms.getD (mIx ms k) mark0).2.1),i6 ((ms.getD (mIx ms k) mark0).2.2)]) (b:=5) (u:=.nilIface) rfl rfl (lB k20 0) rfl (hR_ _ _ ?_)))
  rw[show gMk ms k=(ms.getD (mIx ms k) mark0)from if_pos c6,show dCode ms k=0 from if_pos c6,errV_zero]
  have B26:Below w.heap.size w w18:=(bg (bg (bt b2 b8) g13 (b2).size) g19 (Nat.le_refl _))
  exact⟨rfl,B26⟩
 refine xw 10 [(12,.load (.map (some B))),(14,.as (.tuple #[.agg #[s0,i6 0,i6 0],bF]))] [(6,pw w1.heap.size 0),(15,.agg #[s0,i6 0,i6 0]),(16,bF)] [0,1] (w1.alloc (.cells #[s0,i6 0,i6 0] 31)) [_,RunsAs Tryz.prog [(12,.map (some B)),(13,sT k)] (Go.Op.lookup 71 (Go.Operand.tmp 12) (Go.Operand.tmp 13) true) 89 (.tuple #[.agg #[s0,i6 0,i6 0],bF]) w1] ⟨lc 71 (Blk.below hk b2) 0,runs_look (c:=true) rfl rfl (look_out true (Maps.string_keyed Tryz.underlying9) Tryz.underlying71 zMark (keyS (by omega)) (MapL.below hM b2) c6),trivial⟩ ?_
 obtain⟨w27,w31,b28,k29,z30⟩:=new_world w1 #[s0,i6 0,i6 0] 31
 rw[w31]
 refine xst (.agg #[s0,i6 0,i6 0]) k29 0 #[s0,i6 0,i6 0] (fun w32 g33 k34 z35=>?_)
 refine xr0 1 [(7,bF)] [15,16] ?_
 refine nl (sq (sg (xr0 2 [(18,bT)] [7] ?_)))
 refine nl (ct (sq (X_gen (S:=fun w_=>w_.cell? (⟨0,0,none⟩)=some (.iface 208 (.pointer (some (errAt es 16))))) [] 4 #[false,false,false,false] (by kernel_rfl) (by kernel_rfl) (by kernel_rfl) (fun wd38 b39 h40=>?_))))
 have B41:Below w.heap.size w wd38:=(bt (bg (bt b2 b28) g33 (b2).size) b39)
 refine XG_runC (fuel':=2) ((B41.cell (World.block_lt_of_cell? _ _ (hE.load 16 0 (by decide) (by decide) rfl))).trans (hE.load 16 0 (by decide) (by decide) rfl)) [0,1] [(20,.load (.iface 208 (.pointer (some (errAt es 16)))))] [.agg #[s0,i6 0,i6 0],.iface 208 (.pointer (some (errAt es 16)))] #[true,true,false,false] [(19,.agg #[s0,i6 0,i6 0]),(20,.iface 208 (.pointer (some (errAt es 16))))] [6,18] (fun w_=>[la 45 (⟨0,0,none⟩) (.iface 208 (.pointer (some (errAt es 16)))) w_]) (fun w_ hC_=>⟨loads1 rfl hC_,trivial⟩) ?_
 refine XG_mid (fuel':=1) 2 #[true,true,true,false] _ rfl (by kernel_rfl) (by kernel_rfl) rfl ?_
 have B46:Below w1.heap.size w1 wd38:=(bt (bg b28 g33 (Nat.le_refl _)) b39)
 refine xst (.agg #[s0,i6 0,i6 0]) (Blk.below k3 B46) 0 #[s0,i6 0,i6 0] (fun w42 g43 k44 z45=>?_)
 refine nl ?_
 refine⟨(((bg B41 g43 (Nat.le_refl _)).cell (World.block_lt_of_cell? _ _ (hE.load 16 0 (by decide) (by decide) rfl))).trans (hE.load 16 0 (by decide) (by decide) rfl)),?_⟩
 refine XG_run (fuel':=0) (((bg B41 g43 (Nat.le_refl _)).cell (World.block_lt_of_cell? _ _ (hE.load 16 0 (by decide) (by decide) rfl))).trans (hE.load 16 0 (by decide) (by decide) rfl)) [3] [] [.iface 208 (.pointer (some (errAt es 16)))] #[true,true,true,true] [(4,pw w.heap.size 0),(5,.iface 208 (.pointer (some (errAt es 16))))] (fun w_=>[]) (fun w_ hC_=>trivial) ?_
 refine XG_done (by kernel_rfl) ?_
 refine X_ret (RX.ret_cellT (P:=Tryz.prog) (fn:=Tryz.f17) (N:=22) (R:=R_) (c:=4) (t:=31) (p:=⟨w.heap.size,0,none⟩) (v:=.agg #[s0,i6 0,i6 0]) (b:=5) (u:=.iface 208 (.pointer (some (errAt es 16)))) rfl rfl (lB k44 0) rfl (hR_ _ _ ?_))
 rw[show gMk ms k=mark0 from if_neg c6,show dCode ms k=16 from if_neg c6,errV_pos es 16 (by decide)]
 exact⟨rfl,(bg B41 g43 (Nat.le_refl _))⟩
theorem mdrop_any (gm B:Nat)(ms:List MarkA)(k:ByteArray)(w:World)(hk:RX.Blk w gm 73 #[.map (some B)])(hM:MapL Tryz.prog 9 markR w B (mL ms))(hn:ms.length≤1000)(hks:k.size≤9223372036854775807)(hT:Tabs w)(es:List Addr)(hE:ErrsM w es):Calls Tryz.prog 25 #[pw gm 0,sT k] w fun e w'=>e=.returned (errV es (dCode ms k))∧Chg (· =B) w w'∧MapL Tryz.prog 9 markR w' B (mL (dMs ms k)):=by
 refine en Tryz.func25 rfl 24 [(0,pw gm 0),(1,sT k)] (fun R_ hR_=>?_)
 refine sg (xe0 1 [(0,pw gm 0),(1,sT k)] ?_)
 refine nl (sq (sq (X_region ?_)))
 by_cases c1:mIn ms k
 ·refine xw 10 [(11,.load (.map (some B))),(13,.as (.tuple #[.agg #[sT ((ms.getD (mIx ms k) mark0).1),i6 ((ms.getD (mIx ms k) mark0).2.1),i6 ((ms.getD (mIx ms k) mark0).2.2)],bT]))] [(5,pw w.heap.size 0),(14,.agg #[sT ((ms.getD (mIx ms k) mark0).1),i6 ((ms.getD (mIx ms k) mark0).2.1),i6 ((ms.getD (mIx ms k) mark0).2.2)]),(15,bT)] [] (w.alloc (.cells #[s0,i6 0,i6 0] 31)) [_,RunsAs Tryz.prog [(11,.map (some B)),(12,sT k)] (Go.Op.lookup 71 (Go.Operand.tmp 11) (Go.Operand.tmp 12) true) 89 (.tuple #[.agg #[sT ((ms.getD (mIx ms k) mark0).1),i6 ((ms.getD (mIx ms k) mark0).2.1),i6 ((ms.getD (mIx ms k) mark0).2.2)],bT]) w] ⟨lc 71 hk 0,runs_look (c:=true) rfl rfl (look_in true (Maps.string_keyed Tryz.underlying9) Tryz.underlying71 zMark (keyS (by omega)) hM c1),trivial⟩ ?_
  obtain⟨w2,w6,b3,k4,z5⟩:=new_world w #[s0,i6 0,i6 0] 31
  rw[w6]
  refine xst (.agg #[sT ((ms.getD (mIx ms k) mark0).1),i6 ((ms.getD (mIx ms k) mark0).2.1),i6 ((ms.getD (mIx ms k) mark0).2.2)]) k4 0 #[sT ((ms.getD (mIx ms k) mark0).1),i6 ((ms.getD (mIx ms k) mark0).2.1),i6 ((ms.getD (mIx ms k) mark0).2.2)] (fun w7 g8 k9 z10=>?_)
  have hne11:gm≠w.heap.size:=Blk.tne (Blk.below hk b3) k4 rfl
  have k12:=Blk.other (Blk.below hk b3) g8 hne11
  refine xr0 1 [(6,bT)] [5,14,15] ?_
  refine nl (sg (xr0 2 [(17,bF)] [6] ?_))
  refine nl (cf (sk (sg (xe1 5 [(22,.load (.map (some B)))] [(22,.map (some B)),(23,sT k)] (lc 71 k12 0) ?_))))
  refine XL_mapDel (B:=B) (key:=sT k) (kl:=mK k) rfl rfl rfl (Maps.string_keyed Tryz.underlying9) Tryz.underlying71 (by kernel_rfl) (MapL.below hM (bg b3 g8 (Nat.le_refl _))) (keyS (by omega)) (fun w13 g14 M15=>?_)
  rw[mdel_key (MapL.risM (MapL.below hM (bg b3 g8 (Nat.le_refl _))) (Maps.string_keyed Tryz.underlying9)) k]at M15
  refine nl (sg (xe0 1 [(4,.nilIface)] ?_))
  refine nl (X_ret (rj [.nilIface] hR_ ?_))
  rw[show dCode ms k=0 from if_pos c1,show dMs ms k=mDel ms k from if_pos c1,errV_zero]
  exact⟨rfl,(Chg.trans (Chg.trans (Chg.trans (Chg.refl (· =B) w) (Chg.below (S:=(· =B)) b3) (fun _ _ h_=>h_)) (Chg.grown (S:=(· =w.heap.size)) g8 (fun k_ e_=>(Option.some.inj e_).symm)) (fun g_ h1_ h2_=>absurd h1_ (by subst h2_; exact Nat.not_lt.2 (Nat.le_refl _)))) (Chg.grown (S:=(· =B)) g14 (fun k_ e_=>(Option.some.inj e_).symm)) (fun _ _ h_=>h_)),M15⟩
 refine xw 10 [(11,.load (.map (some B))),(13,.as (.tuple #[.agg #[s0,i6 0,i6 0],bF]))] [(5,pw w.heap.size 0),(14,.agg #[s0,i6 0,i6 0]),(15,bF)] [] (w.alloc (.cells #[s0,i6 0,i6 0] 31)) [_,RunsAs Tryz.prog [(11,.map (some B)),(12,sT k)] (Go.Op.lookup 71 (Go.Operand.tmp 11) (Go.Operand.tmp 12) true) 89 (.tuple #[.agg #[s0,i6 0,i6 0],bF]) w] ⟨lc 71 hk 0,runs_look (c:=true) rfl rfl (look_out true (Maps.string_keyed Tryz.underlying9) Tryz.underlying71 zMark (keyS (by omega)) hM c1),trivial⟩ ?_
 obtain⟨w18,w22,b19,k20,z21⟩:=new_world w #[s0,i6 0,i6 0] 31
 rw[w22]
 refine xst (.agg #[s0,i6 0,i6 0]) k20 0 #[s0,i6 0,i6 0] (fun w23 g24 k25 z26=>?_)
 refine xr0 1 [(6,bF)] [5,14,15] ?_
 refine nl (sg (xr0 2 [(17,bT)] [6] ?_))
 refine nl (ct (sg (xe 2 [(18,.load (.iface 208 (.pointer (some (errAt es 16)))))] [(4,.iface 208 (.pointer (some (errAt es 16))))] [la 45 (⟨0,0,none⟩) (.iface 208 (.pointer (some (errAt es 16)))) w23] ⟨loads1 rfl (((bg b19 g24 (Nat.le_refl _)).cell (World.block_lt_of_cell? _ _ (hE.load 16 0 (by decide) (by decide) rfl))).trans (hE.load 16 0 (by decide) (by decide) rfl)),trivial⟩ ?_)))
 refine nl (X_ret (rj [.iface 208 (.pointer (some (errAt es 16)))] hR_ ?_))
 rw[show dCode ms k=16 from if_neg c1,show dMs ms k=ms from if_neg c1,errV_pos es 16 (by decide)]
 exact⟨rfl,(Chg.trans (Chg.trans (Chg.refl (· =B) w) (Chg.below (S:=(· =B)) b19) (fun _ _ h_=>h_)) (Chg.grown (S:=(· =w.heap.size)) g24 (fun k_ e_=>(Option.some.inj e_).symm)) (fun g_ h1_ h2_=>absurd h1_ (by subst h2_; exact Nat.not_lt.2 (Nat.le_refl _)))),(MapL.below hM (bg b19 g24 (Nat.le_refl _)))⟩
set_option maxHeartbeats 1000000 in
theorem mset_any (gm B:Nat)(ms:List MarkA)(mk:MarkA)(cells:Int)(w:World)(hk:RX.Blk w gm 73 #[.map (some B)])(hM:MapL Tryz.prog 9 markR w B (mL ms))(hn:ms.length≤1000)(hks:mk.1.size≤9223372036854775807)(hT:Tabs w)(es:List Addr)(hE:ErrsM w es):Calls Tryz.prog 15 #[pw gm 0,.agg #[sT mk.1,i6 mk.2.1,i6 mk.2.2],i6 cells] w fun e w'=>e=.returned (errV es (sCode ms mk cells))∧Chg (· =B) w w'∧MapL Tryz.prog 9 markR w' B (mL (sMs ms mk cells)):=by
 refine en Tryz.func15 rfl 61 [(0,pw gm 0),(1,.agg #[sT mk.1,i6 mk.2.1,i6 mk.2.2]),(2,i6 cells)] (fun R_ hR_=>?_)
 refine sg (xwe 1 [] [(0,pw gm 0),(2,i6 cells),(4,pw w.heap.size 0)] (w.alloc (.cells #[sT mk.1,i6 mk.2.1,i6 mk.2.2] 31)) [] trivial ?_)
 obtain⟨w1,w5,b2,k3,z4⟩:=new_world w #[sT mk.1,i6 mk.2.1,i6 mk.2.2] 31
 rw[w5]
 refine xr0 1 [] [] ?_
 refine nl (sq (sg (xr1 2 [(12,.load (sT mk.1))] [(12,sT mk.1)] [] (lc 9 k3 0) ?_)))
 refine xc 34 ent34 [sT mk.1] (mname_any mk.1 _ hks (hT.below b2) es (hE.below b2)) ?_
 rintro e w_6 ⟨rfl,b7⟩; refine⟨_,rfl,?_⟩
 by_cases c8:decide (nmOk mk.1)=true
 ·rw[show (decide (nmOk mk.1):Bool)=true from by simpa using c8]
  refine xr0 1 [(14,bF)] [12,13] ?_
  refine nl (cf (sk (sq (sg (xr 6 [(17,.load (i6 mk.2.1)),(19,.load (i6 mk.2.2))] [(20,.agg #[i6 mk.2.1,i6 mk.2.2]),(21,i6 0)] [14] [_,_] ⟨lc 3 (Blk.below k3 b7) 1,lc 3 (Blk.below k3 b7) 2,trivial⟩ ?_)))))
  refine nl (bk (X_loop (ι:=Nat) (fun i=>[(0,pw gm 0),(2,i6 cells),(4,pw w.heap.size 0),(20,.agg #[i6 mk.2.1,i6 mk.2.2]),(21,i6 (i:Int))]) (fun i wl=>i≤2∧(1≤i→0≤mk.2.1∧mk.2.1≤cells)∧(2≤i→0≤mk.2.2∧mk.2.2≤cells)∧Below w_6.heap.size w_6 wl) (fun i=>2-i) 0 ⟨by omega,fun h_=>by omega,fun h_=>by omega,Below.refl _ _⟩ (by kernel_rfl) ?_))
  rintro i wl ⟨hi,he1,he2,HB⟩
  refine sq (X_region ?_)
  by_cases c9:(i:Int)<2
  ·refine xr1 1 [(22,.eq bT)] [(22,bT)] [] (dT c9) ?_
   refine nl (sq (ct (sk (sq (bk (sq (X_region ?_)))))))
   have hi2_:i=0∨i=1:=by omega
   rcases hi2_ with rfl|rfl
   ·refine xr0 2 [(8,i6 mk.2.1),(21,i6 0)] [22] ?_
    refine nl (sg (xr0 1 [(24,i6 mk.2.1)] [] ?_))
    by_cases c10:mk.2.1<0
    ·refine xr1 6 [(25,.eq bT)] [(30,bT)] [8,24] (dT c10) ?_
     refine nl (ct (sg (xe 2 [(31,.load (.iface 208 (.pointer (some (errAt es 12)))))] [(6,.iface 208 (.pointer (some (errAt es 12))))] [la 45 (⟨2,0,none⟩) (.iface 208 (.pointer (some (errAt es 12)))) wl] ⟨loads1 rfl (((bt (bt b2 b7) HB).cell (World.block_lt_of_cell? _ _ (hE.load 12 2 (by decide) (by decide) rfl))).trans (hE.load 12 2 (by decide) (by decide) rfl)),trivial⟩ ?_)))
     refine nl (X_ret (rj [.iface 208 (.pointer (some (errAt es 12)))] hR_ ?_))
     have hnm_:=of_decide_eq_true c8
     have hc_:sCode ms mk cells=12:=sCode_12 hnm_ (by omega)
     rw[hc_,sMs_no (by rw[hc_]; decide),errV_pos es 12 (by decide)]
     exact⟨rfl,(Chg.trans (Chg.trans (Chg.trans (Chg.refl (· =B) w) (Chg.below (S:=(· =B)) b2) (fun _ _ h_=>h_)) (Chg.below (S:=(· =B)) b7) (fun _ _ h_=>h_)) (Chg.below (S:=(· =B)) HB) (fun _ _ h_=>h_)),(MapL.below hM (bt (bt b2 b7) HB))⟩
    refine xr1 4 [(25,.eq bF)] [(26,bF),(27,i6 mk.2.1),(28,i6 cells)] [8,24] (dF c10) ?_
    by_cases c11:mk.2.1>cells
    ·refine xr1 2 [(29,.eq bT)] [(30,bT)] [26,27,28] (dT c11) ?_
     refine nl (ct (sg (xe 2 [(31,.load (.iface 208 (.pointer (some (errAt es 12)))))] [(6,.iface 208 (.pointer (some (errAt es 12))))] [la 45 (⟨2,0,none⟩) (.iface 208 (.pointer (some (errAt es 12)))) wl] ⟨loads1 rfl (((bt (bt b2 b7) HB).cell (World.block_lt_of_cell? _ _ (hE.load 12 2 (by decide) (by decide) rfl))).trans (hE.load 12 2 (by decide) (by decide) rfl)),trivial⟩ ?_)))
     refine nl (X_ret (rj [.iface 208 (.pointer (some (errAt es 12)))] hR_ ?_))
     have hnm_:=of_decide_eq_true c8
     have hc_:sCode ms mk cells=12:=sCode_12 hnm_ (by omega)
     rw[hc_,sMs_no (by rw[hc_]; decide),errV_pos es 12 (by decide)]
     exact⟨rfl,(Chg.trans (Chg.trans (Chg.trans (Chg.refl (· =B) w) (Chg.below (S:=(· =B)) b2) (fun _ _ h_=>h_)) (Chg.below (S:=(· =B)) b7) (fun _ _ h_=>h_)) (Chg.below (S:=(· =B)) HB) (fun _ _ h_=>h_)),(MapL.below hM (bt (bt b2 b7) HB))⟩
    refine xr1 2 [(29,.eq bF)] [(30,bF)] [26,27,28] (dF c11) ?_
    refine nl (cf (sk (rg (xe0 2 [(0,pw gm 0),(2,i6 cells),(4,pw w.heap.size 0),(20,.agg #[i6 mk.2.1,i6 mk.2.2]),(21,i6 1)] ?_))))
    refine nl ?_
    refine⟨(0+1),by kernel_rfl,?_,?_⟩
    ·exact⟨by omega,fun h_=>by omega,fun h_=>by omega,HB⟩
    (try dsimp only); omega
   refine xr0 2 [(8,i6 mk.2.2),(21,i6 1)] [22] ?_
   refine nl (sg (xr0 1 [(24,i6 mk.2.2)] [] ?_))
   by_cases c12:mk.2.2<0
   ·refine xr1 6 [(25,.eq bT)] [(30,bT)] [8,24] (dT c12) ?_
    refine nl (ct (sg (xe 2 [(31,.load (.iface 208 (.pointer (some (errAt es 12)))))] [(6,.iface 208 (.pointer (some (errAt es 12))))] [la 45 (⟨2,0,none⟩) (.iface 208 (.pointer (some (errAt es 12)))) wl] ⟨loads1 rfl (((bt (bt b2 b7) HB).cell (World.block_lt_of_cell? _ _ (hE.load 12 2 (by decide) (by decide) rfl))).trans (hE.load 12 2 (by decide) (by decide) rfl)),trivial⟩ ?_)))
    refine nl (X_ret (rj [.iface 208 (.pointer (some (errAt es 12)))] hR_ ?_))
    have hnm_:=of_decide_eq_true c8
    have hc_:sCode ms mk cells=12:=sCode_12 hnm_ (by omega)
    rw[hc_,sMs_no (by rw[hc_]; decide),errV_pos es 12 (by decide)]
    exact⟨rfl,(Chg.trans (Chg.trans (Chg.trans (Chg.refl (· =B) w) (Chg.below (S:=(· =B)) b2) (fun _ _ h_=>h_)) (Chg.below (S:=(· =B)) b7) (fun _ _ h_=>h_)) (Chg.below (S:=(· =B)) HB) (fun _ _ h_=>h_)),(MapL.below hM (bt (bt b2 b7) HB))⟩
   refine xr1 4 [(25,.eq bF)] [(26,bF),(27,i6 mk.2.2),(28,i6 cells)] [8,24] (dF c12) ?_
   by_cases c13:mk.2.2>cells
   ·refine xr1 2 [(29,.eq bT)] [(30,bT)] [26,27,28] (dT c13) ?_
    refine nl (ct (sg (xe 2 [(31,.load (.iface 208 (.pointer (some (errAt es 12)))))] [(6,.iface 208 (.pointer (some (errAt es 12))))] [la 45 (⟨2,0,none⟩) (.iface 208 (.pointer (some (errAt es 12)))) wl] ⟨loads1 rfl (((bt (bt b2 b7) HB).cell (World.block_lt_of_cell? _ _ (hE.load 12 2 (by decide) (by decide) rfl))).trans (hE.load 12 2 (by decide) (by decide) rfl)),trivial⟩ ?_)))
    refine nl (X_ret (rj [.iface 208 (.pointer (some (errAt es 12)))] hR_ ?_))
    have hnm_:=of_decide_eq_true c8
    have hc_:sCode ms mk cells=12:=sCode_12 hnm_ (by omega)
    rw[hc_,sMs_no (by rw[hc_]; decide),errV_pos es 12 (by decide)]
    exact⟨rfl,(Chg.trans (Chg.trans (Chg.trans (Chg.refl (· =B) w) (Chg.below (S:=(· =B)) b2) (fun _ _ h_=>h_)) (Chg.below (S:=(· =B)) b7) (fun _ _ h_=>h_)) (Chg.below (S:=(· =B)) HB) (fun _ _ h_=>h_)),(MapL.below hM (bt (bt b2 b7) HB))⟩
   refine xr1 2 [(29,.eq bF)] [(30,bF)] [26,27,28] (dF c13) ?_
   refine nl (cf (sk (rg (xe0 2 [(0,pw gm 0),(2,i6 cells),(4,pw w.heap.size 0),(20,.agg #[i6 mk.2.1,i6 mk.2.2]),(21,i6 2)] ?_))))
   refine nl ?_
   refine⟨(1+1),by kernel_rfl,?_,?_⟩
   ·exact⟨by omega,fun h_=>by omega,fun h_=>by omega,HB⟩
   (try dsimp only); omega
  refine xr1 1 [(22,.eq bF)] [(22,bF)] [] (dF c9) ?_
  refine nl (sq (cf (X_exit (sq (sq (X_grow [11] 13 (tf 0 13) (by kernel_rfl) (by kernel_rfl) (by kernel_rfl) (fun wd14 b15 h16=>?_)))))))
  by_cases c17:mIn ms mk.1
  ·refine XB_runC (fuel':=4) (Below.refl _ _) [0,1,2,3,4,5,6,7,8] [(37,.load (.map (some B))),(39,.load (sT mk.1)),(40,.as (.tuple #[.agg #[sT ((ms.getD (mIx ms mk.1) mark0).1),i6 ((ms.getD (mIx ms mk.1) mark0).2.1),i6 ((ms.getD (mIx ms mk.1) mark0).2.2)],bT]))] [pw gm 0,pw gm 0,pw gm 0,.map (some B),pw w.heap.size 0,sT mk.1,.tuple #[.agg #[sT ((ms.getD (mIx ms mk.1) mark0).1),i6 ((ms.getD (mIx ms mk.1) mark0).2.1),i6 ((ms.getD (mIx ms mk.1) mark0).2.2)],bT],.tuple #[.agg #[sT ((ms.getD (mIx ms mk.1) mark0).1),i6 ((ms.getD (mIx ms mk.1) mark0).2.1),i6 ((ms.getD (mIx ms mk.1) mark0).2.2)],bT],.agg #[sT ((ms.getD (mIx ms mk.1) mark0).1),i6 ((ms.getD (mIx ms mk.1) mark0).2.1),i6 ((ms.getD (mIx ms mk.1) mark0).2.2)]] (tf 9 4) [(33,.tuple #[.agg #[sT ((ms.getD (mIx ms mk.1) mark0).1),i6 ((ms.getD (mIx ms mk.1) mark0).2.1),i6 ((ms.getD (mIx ms mk.1) mark0).2.2)],bT]),(41,.agg #[sT ((ms.getD (mIx ms mk.1) mark0).1),i6 ((ms.getD (mIx ms mk.1) mark0).2.1),i6 ((ms.getD (mIx ms mk.1) mark0).2.2)])] [2,20,21,22] (fun w_=>[la 71 (⟨gm,0,none⟩) (.map (some B)) w_,la 9 (⟨w.heap.size,0,none⟩) (sT mk.1) w_,RunsAs Tryz.prog [(37,.map (some B)),(39,sT mk.1)] (Go.Op.lookup 71 (Go.Operand.tmp 37) (Go.Operand.tmp 39) true) 89 (.tuple #[.agg #[sT ((ms.getD (mIx ms mk.1) mark0).1),i6 ((ms.getD (mIx ms mk.1) mark0).2.1),i6 ((ms.getD (mIx ms mk.1) mark0).2.2)],bT]) w_]) (fun w_ hC_=>⟨loads1 rfl (Blk.cell (Blk.below hk (bt (bt (bt (bt b2 b7) HB) b15) hC_)) 0 _ rfl),loads1 rfl (Blk.cell (Blk.below k3 (bt (bt (bt b7 HB) b15) hC_)) 0 _ rfl),runs_look (c:=true) rfl rfl (look_in true (Maps.string_keyed Tryz.underlying9) Tryz.underlying71 zMark (keyS (by omega)) (MapL.below hM (bt (bt (bt (bt b2 b7) HB) b15) hC_)) c17),trivial⟩) ?_
   refine XB_pure (fuel':=3) [9] [] [bT] (tf 10 3) [(0,pw gm 0),(4,pw w.heap.size 0),(41,.agg #[sT ((ms.getD (mIx ms mk.1) mark0).1),i6 ((ms.getD (mIx ms mk.1) mark0).2.1),i6 ((ms.getD (mIx ms mk.1) mark0).2.2)]),(42,bT)] (fun w_=>[]) (fun _ _ _ _ h=>h) (fun w_=>by kernel_rfl) rfl (fun w_=>trivial) ?_
   refine XB_mid (fuel':=2) 10 (tf 11 2) _ rfl (by kernel_rfl) (by kernel_rfl) rfl ?_
   refine xw 1 [] [(9,pw wd14.heap.size 0)] [] (wd14.alloc (.cells #[s0,i6 0,i6 0] 31)) [] trivial ?_
   obtain⟨w18,w22,b19,k20,z21⟩:=new_world wd14 #[s0,i6 0,i6 0] 31
   rw[w22]
   refine nl ?_
   refine⟨b19,?_⟩
   refine XB_act (fuel':=1) 11 (tf 12 1) _ rfl (by kernel_rfl) rfl (by kernel_rfl) rfl ?_
   refine xst (.agg #[sT ((ms.getD (mIx ms mk.1) mark0).1),i6 ((ms.getD (mIx ms mk.1) mark0).2.1),i6 ((ms.getD (mIx ms mk.1) mark0).2.2)]) k20 0 #[sT ((ms.getD (mIx ms mk.1) mark0).1),i6 ((ms.getD (mIx ms mk.1) mark0).2.1),i6 ((ms.getD (mIx ms mk.1) mark0).2.2)] (fun w23 g24 k25 z26=>?_)
   have B27:Below w.heap.size w w18:=(bt (bt (bt (bt b2 b7) HB) b15) b19)
   have hne28:gm≠wd14.heap.size:=Blk.tne (Blk.below hk B27) k20 rfl
   have k29:=Blk.other (Blk.below hk B27) g24 hne28
   refine nl (XB_pure (fuel':=0) [12] [] [bT] (tf 13 0) [(0,pw gm 0),(4,pw w.heap.size 0),(10,bT)] (fun w_=>[]) (fun _ _ _ _ h=>h) (fun w_=>by kernel_rfl) rfl (fun w_=>trivial) ?_)
   refine XB_done (by kernel_rfl) ?_
   refine sg (xr0 10 [(52,bF)] [10] ?_)
   refine nl (cf (sk (sq (X_any [7] 8 (tf 0 8) (by kernel_rfl) (by kernel_rfl) (by kernel_rfl) (fun wd30 b31 h32=>?_)))))
   have B33:Below w1.heap.size w1 wd30:=(bt (bg (bt (bt (bt b7 HB) b15) b19) g24 ((bt (bt b7 HB) b15)).size) b31)
   refine XA_run (fuel':=1) [0,1,2,3,4,5,6] [(57,.load (.map (some B))),(59,.load (sT mk.1)),(60,.load (.agg #[sT mk.1,i6 mk.2.1,i6 mk.2.2]))] [pw gm 0,pw gm 0,pw gm 0,.map (some B),pw w.heap.size 0,sT mk.1,.agg #[sT mk.1,i6 mk.2.1,i6 mk.2.2]] (tf 7 1) [(57,.map (some B)),(59,sT mk.1),(60,.agg #[sT mk.1,i6 mk.2.1,i6 mk.2.2])] [la 71 (⟨gm,0,none⟩) (.map (some B)) wd30,la 9 (⟨w.heap.size,0,none⟩) (sT mk.1) wd30,la 31 (⟨w.heap.size,0,none⟩) (.agg #[sT mk.1,i6 mk.2.1,i6 mk.2.2]) wd30] ⟨loads1 rfl (Blk.cell (Blk.below k29 b31) 0 _ rfl),loads1 rfl (Blk.cell (Blk.below k3 B33) 0 _ rfl),loadsB rfl rfl (Blk.below k3 B33) 0 ⟨by kernel_rfl,by kernel_rfl⟩,trivial⟩ ?_
   refine XA_act (fuel':=0) 7 (tf 8 0) _ rfl (by kernel_rfl) rfl (by kernel_rfl) rfl ?_
   have B34:Below w.heap.size w wd30:=(bt (bg B27 g24 ((bt (bt (bt b2 b7) HB) b15)).size) b31)
   refine XL_mapPut (B:=B) (key:=sT mk.1) (val:=.agg #[sT mk.1,i6 mk.2.1,i6 mk.2.2]) (kl:=mK mk.1) (d:=mD mk) (ps:=[]) rfl rfl rfl (Maps.string_keyed Tryz.underlying9) Tryz.underlying71 (by kernel_rfl) (MapL.below hM B34) (by rw[mL_len]; unfold maxLen; omega) (keyS (by omega)) rfl (fun w35 g36 M37=>?_)
   rw[mput_key (MapL.risM (MapL.below hM B34) (Maps.string_keyed Tryz.underlying9)) mk]at M37
   refine nl (XA_done (by kernel_rfl) ?_)
   refine sg (xe0 1 [(6,.nilIface)] ?_)
   refine nl (X_ret (rj [.nilIface] hR_ ?_))
   have hnm_:=of_decide_eq_true c8
   have hc_:sCode ms mk cells=0:=sCode_0 hnm_ (by have h1_:=he1 (by omega); have h2_:=he2 (by omega); omega) (fun h_=>h_.1 c17)
   rw[hc_,sMs_put hc_,errV_zero]
   exact⟨rfl,(Chg.trans (Chg.trans (Chg.trans (Chg.trans (Chg.trans (Chg.trans (Chg.trans (Chg.trans (Chg.refl (· =B) w) (Chg.below (S:=(· =B)) b2) (fun _ _ h_=>h_)) (Chg.below (S:=(· =B)) b7) (fun _ _ h_=>h_)) (Chg.below (S:=(· =B)) HB) (fun _ _ h_=>h_)) (Chg.below (S:=(· =B)) b15) (fun _ _ h_=>h_)) (Chg.below (S:=(· =B)) b19) (fun _ _ h_=>h_)) (Chg.grown (S:=(· =wd14.heap.size)) g24 (fun k_ e_=>(Option.some.inj e_).symm)) (fun g_ h1_ h2_=>absurd h1_ (by subst h2_; exact Nat.not_lt.2 ((bt (bt (bt b2 b7) HB) b15)).size))) (Chg.below (S:=(· =B)) b31) (fun _ _ h_=>h_)) (Chg.grown (S:=(· =B)) g36 (fun k_ e_=>(Option.some.inj e_).symm)) (fun _ _ h_=>h_)),M37⟩
  refine XB_runC (fuel':=4) (Below.refl _ _) [0,1,2,3,4,5,6,7,8] [(37,.load (.map (some B))),(39,.load (sT mk.1)),(40,.as (.tuple #[.agg #[s0,i6 0,i6 0],bF]))] [pw gm 0,pw gm 0,pw gm 0,.map (some B),pw w.heap.size 0,sT mk.1,.tuple #[.agg #[s0,i6 0,i6 0],bF],.tuple #[.agg #[s0,i6 0,i6 0],bF],.agg #[s0,i6 0,i6 0]] (tf 9 4) [(33,.tuple #[.agg #[s0,i6 0,i6 0],bF]),(41,.agg #[s0,i6 0,i6 0])] [2,20,21,22] (fun w_=>[la 71 (⟨gm,0,none⟩) (.map (some B)) w_,la 9 (⟨w.heap.size,0,none⟩) (sT mk.1) w_,RunsAs Tryz.prog [(37,.map (some B)),(39,sT mk.1)] (Go.Op.lookup 71 (Go.Operand.tmp 37) (Go.Operand.tmp 39) true) 89 (.tuple #[.agg #[s0,i6 0,i6 0],bF]) w_]) (fun w_ hC_=>⟨loads1 rfl (Blk.cell (Blk.below hk (bt (bt (bt (bt b2 b7) HB) b15) hC_)) 0 _ rfl),loads1 rfl (Blk.cell (Blk.below k3 (bt (bt (bt b7 HB) b15) hC_)) 0 _ rfl),runs_look (c:=true) rfl rfl (look_out true (Maps.string_keyed Tryz.underlying9) Tryz.underlying71 zMark (keyS (by omega)) (MapL.below hM (bt (bt (bt (bt b2 b7) HB) b15) hC_)) c17),trivial⟩) ?_
  refine XB_pure (fuel':=3) [9] [] [bF] (tf 10 3) [(0,pw gm 0),(4,pw w.heap.size 0),(41,.agg #[s0,i6 0,i6 0]),(42,bF)] (fun w_=>[]) (fun _ _ _ _ h=>h) (fun w_=>by kernel_rfl) rfl (fun w_=>trivial) ?_
  refine XB_mid (fuel':=2) 10 (tf 11 2) _ rfl (by kernel_rfl) (by kernel_rfl) rfl ?_
  refine xw 1 [] [(9,pw wd14.heap.size 0)] [] (wd14.alloc (.cells #[s0,i6 0,i6 0] 31)) [] trivial ?_
  obtain⟨w41,w45,b42,k43,z44⟩:=new_world wd14 #[s0,i6 0,i6 0] 31
  rw[w45]
  refine nl ?_
  refine⟨b42,?_⟩
  refine XB_act (fuel':=1) 11 (tf 12 1) _ rfl (by kernel_rfl) rfl (by kernel_rfl) rfl ?_
  refine xst (.agg #[s0,i6 0,i6 0]) k43 0 #[s0,i6 0,i6 0] (fun w46 g47 k48 z49=>?_)
  have B50:Below w.heap.size w w41:=(bt (bt (bt (bt b2 b7) HB) b15) b42)
  have hne51:gm≠wd14.heap.size:=Blk.tne (Blk.below hk B50) k43 rfl
  have k52:=Blk.other (Blk.below hk B50) g47 hne51
  refine nl (XB_pure (fuel':=0) [12] [] [bF] (tf 13 0) [(0,pw gm 0),(4,pw w.heap.size 0),(10,bF)] (fun w_=>[]) (fun _ _ _ _ h=>h) (fun w_=>by kernel_rfl) rfl (fun w_=>trivial) ?_)
  refine XB_done (by kernel_rfl) ?_
  refine sq (X_region ?_)
  have B53:Below w.heap.size w w46:=(bg B50 g47 ((bt (bt (bt b2 b7) HB) b15)).size)
  refine xr 8 [(49,.load (.map (some B))),(50,.as (i6 (ms.length:Int)))] [(45,bT),(50,i6 (ms.length:Int))] [10] [_,RunsAs Tryz.prog [(49,.map (some B))] (Go.Op.call { callee:=(Go.Callee.builtin Go.Builtin.len),args:=#[(Go.Operand.tmp 49)],argTypes:=#[71] }) 3 (i6 (ms.length:Int)) w46] ⟨lc 71 k52 0,runs_mapLen rfl Tryz.underlying71 (MapL.below hM B53),trivial⟩ ?_
  by_cases c54:(ms.length:Int)≥64
  ·refine xr1 2 [(51,.eq bT)] [(52,bT)] [45,50] (dT c54) ?_
   refine nl (ct (sg (xe 2 [(53,.load (.iface 208 (.pointer (some (errAt es 16)))))] [(6,.iface 208 (.pointer (some (errAt es 16))))] [la 45 (⟨0,0,none⟩) (.iface 208 (.pointer (some (errAt es 16)))) w46] ⟨loads1 rfl ((B53.cell (World.block_lt_of_cell? _ _ (hE.load 16 0 (by decide) (by decide) rfl))).trans (hE.load 16 0 (by decide) (by decide) rfl)),trivial⟩ ?_)))
   refine nl (X_ret (rj [.iface 208 (.pointer (some (errAt es 16)))] hR_ ?_))
   have hnm_:=of_decide_eq_true c8
   have hc_:sCode ms mk cells=16:=sCode_16 hnm_ (by have h1_:=he1 (by omega); have h2_:=he2 (by omega); omega) ⟨c17,by omega⟩
   rw[hc_,sMs_no (by rw[hc_]; decide),errV_pos es 16 (by decide)]
   exact⟨rfl,(Chg.trans (Chg.trans (Chg.trans (Chg.trans (Chg.trans (Chg.trans (Chg.refl (· =B) w) (Chg.below (S:=(· =B)) b2) (fun _ _ h_=>h_)) (Chg.below (S:=(· =B)) b7) (fun _ _ h_=>h_)) (Chg.below (S:=(· =B)) HB) (fun _ _ h_=>h_)) (Chg.below (S:=(· =B)) b15) (fun _ _ h_=>h_)) (Chg.below (S:=(· =B)) b42) (fun _ _ h_=>h_)) (Chg.grown (S:=(· =wd14.heap.size)) g47 (fun k_ e_=>(Option.some.inj e_).symm)) (fun g_ h1_ h2_=>absurd h1_ (by subst h2_; exact Nat.not_lt.2 ((bt (bt (bt b2 b7) HB) b15)).size))),(MapL.below hM B53)⟩
  refine xr1 2 [(51,.eq bF)] [(52,bF)] [45,50] (dF c54) ?_
  refine nl (cf (sk (sq (X_any [7] 8 (tf 0 8) (by kernel_rfl) (by kernel_rfl) (by kernel_rfl) (fun wd55 b56 h57=>?_)))))
  have B58:Below w1.heap.size w1 wd55:=(bt (bg (bt (bt (bt b7 HB) b15) b42) g47 ((bt (bt b7 HB) b15)).size) b56)
  refine XA_run (fuel':=1) [0,1,2,3,4,5,6] [(57,.load (.map (some B))),(59,.load (sT mk.1)),(60,.load (.agg #[sT mk.1,i6 mk.2.1,i6 mk.2.2]))] [pw gm 0,pw gm 0,pw gm 0,.map (some B),pw w.heap.size 0,sT mk.1,.agg #[sT mk.1,i6 mk.2.1,i6 mk.2.2]] (tf 7 1) [(57,.map (some B)),(59,sT mk.1),(60,.agg #[sT mk.1,i6 mk.2.1,i6 mk.2.2])] [la 71 (⟨gm,0,none⟩) (.map (some B)) wd55,la 9 (⟨w.heap.size,0,none⟩) (sT mk.1) wd55,la 31 (⟨w.heap.size,0,none⟩) (.agg #[sT mk.1,i6 mk.2.1,i6 mk.2.2]) wd55] ⟨loads1 rfl (Blk.cell (Blk.below k52 b56) 0 _ rfl),loads1 rfl (Blk.cell (Blk.below k3 B58) 0 _ rfl),loadsB rfl rfl (Blk.below k3 B58) 0 ⟨by kernel_rfl,by kernel_rfl⟩,trivial⟩ ?_
  refine XA_act (fuel':=0) 7 (tf 8 0) _ rfl (by kernel_rfl) rfl (by kernel_rfl) rfl ?_
  refine XL_mapPut (B:=B) (key:=sT mk.1) (val:=.agg #[sT mk.1,i6 mk.2.1,i6 mk.2.2]) (kl:=mK mk.1) (d:=mD mk) (ps:=[]) rfl rfl rfl (Maps.string_keyed Tryz.underlying9) Tryz.underlying71 (by kernel_rfl) (MapL.below hM (bt B53 b56)) (by rw[mL_len]; unfold maxLen; omega) (keyS (by omega)) rfl (fun w59 g60 M61=>?_)
  rw[mput_key (MapL.risM (MapL.below hM (bt B53 b56)) (Maps.string_keyed Tryz.underlying9)) mk]at M61
  refine nl (XA_done (by kernel_rfl) ?_)
  refine sg (xe0 1 [(6,.nilIface)] ?_)
  refine nl (X_ret (rj [.nilIface] hR_ ?_))
  have hnm_:=of_decide_eq_true c8
  have hc_:sCode ms mk cells=0:=sCode_0 hnm_ (by have h1_:=he1 (by omega); have h2_:=he2 (by omega); omega) (fun h_=>by have:=h_.2; omega)
  rw[hc_,sMs_put hc_,errV_zero]
  exact⟨rfl,(Chg.trans (Chg.trans (Chg.trans (Chg.trans (Chg.trans (Chg.trans (Chg.trans (Chg.trans (Chg.refl (· =B) w) (Chg.below (S:=(· =B)) b2) (fun _ _ h_=>h_)) (Chg.below (S:=(· =B)) b7) (fun _ _ h_=>h_)) (Chg.below (S:=(· =B)) HB) (fun _ _ h_=>h_)) (Chg.below (S:=(· =B)) b15) (fun _ _ h_=>h_)) (Chg.below (S:=(· =B)) b42) (fun _ _ h_=>h_)) (Chg.grown (S:=(· =wd14.heap.size)) g47 (fun k_ e_=>(Option.some.inj e_).symm)) (fun g_ h1_ h2_=>absurd h1_ (by subst h2_; exact Nat.not_lt.2 ((bt (bt (bt b2 b7) HB) b15)).size))) (Chg.below (S:=(· =B)) b56) (fun _ _ h_=>h_)) (Chg.grown (S:=(· =B)) g60 (fun k_ e_=>(Option.some.inj e_).symm)) (fun _ _ h_=>h_)),M61⟩
 rw[show (decide (nmOk mk.1):Bool)=false from by simpa using c8]
 refine xr0 1 [(14,bT)] [12,13] ?_
 refine nl (ct (sg (xe 2 [(15,.load (.iface 208 (.pointer (some (errAt es 6)))))] [(6,.iface 208 (.pointer (some (errAt es 6))))] [la 45 (⟨1,0,none⟩) (.iface 208 (.pointer (some (errAt es 6)))) w_6] ⟨loads1 rfl (((bt b2 b7).cell (World.block_lt_of_cell? _ _ (hE.load 6 1 (by decide) (by decide) rfl))).trans (hE.load 6 1 (by decide) (by decide) rfl)),trivial⟩ ?_)))
 refine nl (X_ret (rj [.iface 208 (.pointer (some (errAt es 6)))] hR_ ?_))
 have hc_:sCode ms mk cells=6:=sCode_6 (of_decide_eq_false (Bool.eq_false_iff.2 c8))
 rw[hc_,sMs_no (by rw[hc_]; decide),errV_pos es 6 (by decide)]
 exact⟨rfl,(Chg.trans (Chg.trans (Chg.refl (· =B) w) (Chg.below (S:=(· =B)) b2) (fun _ _ h_=>h_)) (Chg.below (S:=(· =B)) b7) (fun _ _ h_=>h_)),(MapL.below hM (bt b2 b7))⟩
end Go.Proofs.YtlnnjfdonilgmaaGreatDoor
