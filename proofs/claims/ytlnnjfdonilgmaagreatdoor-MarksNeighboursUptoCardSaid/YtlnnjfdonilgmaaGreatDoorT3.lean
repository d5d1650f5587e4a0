/- What builders do with rows of pieces. Conditions: sizes. -/
import Derived.Test.YtlnnjfdonilgmaaGreatDoorT2
import Derived.Test.YtlnnjfdonilgmaaGreatDoorOkg
set_option linter.unusedVariables false
set_option linter.unusedSimpArgs false
set_option maxRecDepth 100000
namespace Go.Proofs.YtlnnjfdonilgmaaGreatDoor
open Go Go.RowKit Go.Proofs.YtlnnjfdonilgmaaGreatDoorW.PrintWords RX
theorem ent45 :Ent Tryz.prog 45:=ent_of Tryz.func45 (by kernel_rfl) rfl
theorem ent12 :Ent Tryz.prog 12:=ent_of Tryz.func12 (by kernel_rfl) rfl
theorem ent62 :Ent Tryz.prog 62:=ent_of Tryz.func62 (by kernel_rfl) rfl
theorem ent63 :Ent Tryz.prog 63:=ent_of Tryz.func63 (by kernel_rfl) rfl
theorem ent64 :Ent Tryz.prog 64:=ent_of Tryz.func64 (by kernel_rfl) rfl
theorem bnew_any (w:World):Calls Tryz.prog 45 #[] w fun e w'=>∃ g,e=.returned (pw g 0)∧w.heap.size≤g∧RX.Blk w' g 119 #[i6 0,i6 0,.slice none 0 0,i6 0]∧Below w.heap.size w w':=by
 refine en Tryz.func45 rfl 3 [] (fun R_ hR_=>?_)
 refine sg (xe0 1 [] ?_)
 refine nl (sg (xwe 2 [] [(2,pw w.heap.size 0)] (w.alloc (.cells #[i6 0,i6 0,.slice none 0 0,i6 0] 119)) [] trivial ?_))
 obtain⟨w1,w5,b2,k3,z4⟩:=new_world w #[i6 0,i6 0,.slice none 0 0,i6 0] 119
 rw[w5]
 refine xe0 1 [(0,pw w.heap.size 0)] ?_
 refine nl (X_ret (rj [pw w.heap.size 0] hR_ ?_))
 exact⟨_,rfl,(Nat.le_refl _),k3,b2⟩
theorem bempty_any (w:World):Calls Tryz.prog 12 #[] w fun e w'=>∃ g,e=.returned (pw g 0)∧w.heap.size≤g∧RX.Blk w' g 84 #[.slice none 0 0]∧Below w.heap.size w w':=by
 refine en Tryz.func12 rfl 3 [] (fun R_ hR_=>?_)
 refine sg (xe0 1 [] ?_)
 refine nl (sg (xwe 2 [] [(2,pw w.heap.size 0)] (w.alloc (.cells #[.slice none 0 0] 84)) [] trivial ?_))
 obtain⟨w1,w5,b2,k3,z4⟩:=new_world w #[.slice none 0 0] 84
 rw[w5]
 refine xe0 1 [(0,pw w.heap.size 0)] ?_
 refine nl (X_ret (rj [pw w.heap.size 0] hR_ ?_))
 exact⟨_,rfl,(Nat.le_refl _),k3,b2⟩
theorem map_gone (ps:List OpA)(n:Int):List.map pOf ps++[PieceA.del n]=List.map pOf (ps++[B.gone n]):=by rw[List.map_append]; rfl
theorem bdeleted_any {ok:Nat→Prop}(A:Option Addr)(c:Nat)(ps:List OpA)(n:Int)(wB w:World)(hB:wB.heap.size≤w.heap.size)(hR:kPiece.R 123 w wB.heap.size ok (.slice A (List.map pOf ps).length c) (List.map pOf ps))(hok:∀ k,w.heap.size≤k→ok k)(hl:ps.length≤1000000000):
  Calls Tryz.prog 62 #[.slice A (List.map pOf ps).length c,i6 n] w fun e w'=>∃ A' c',e=.returned (.slice A' (List.map pOf (B.dels ps n)).length c')∧kPiece.R 123 w' wB.heap.size ok (.slice A' (List.map pOf (B.dels ps n)).length c') (List.map pOf (B.dels ps n))∧w.grownBy w' (A.map (·.block))∧(A'.map (·.block)=A.map (·.block)∨∃ b,A'.map (·.block)=some b∧w.heap.size≤b):=by
 have hlm:(List.map pOf ps).length=ps.length:=List.length_map ..
 refine en Tryz.func62 rfl 14 [(0,.slice A ((List.map pOf ps).length) c),(1,i6 n)] (fun R_ hR_=>?_)
 refine sg (xe0 1 [(0,.slice A ((List.map pOf ps).length) c),(1,i6 n)] ?_)
 refine nl (sq (sg (xr0 1 [(5,i6 n)] [] ?_)))
 by_cases c1:n=0
 ·refine xr1 1 [(6,.eq bT)] [(6,bT)] [5] (bE c1) ?_
  refine nl (ct (sg (xe0 2 [(4,.slice A ((List.map pOf ps).length) c)] ?_)))
  refine nl (X_ret (rj [.slice A ((List.map pOf ps).length) c] hR_ ?_))
  rw[show B.dels ps n=ps from if_pos c1]
  exact⟨_,_,rfl,hR,World.grownBy.refl _ _,.inl rfl⟩
 refine xr1 1 [(6,.eq bF)] [(6,bF)] [5] (bN c1) ?_
 refine nl (cf (sk (sg (xe0 4 [(8,.slice A ((List.map pOf ps).length) c),(11,.iface 126 (.agg #[i6 n]))] ?_))))
 refine xw 1 [] [(12,.slice (some ⟨w.heap.size,0,none⟩) 1 1)] [11] (w.alloc (.cells #[.iface 126 (.agg #[i6 n])] 123)) [] trivial ?_
 obtain⟨w2,hw6,b3,k4,z5⟩:=new_world w #[.iface 126 (.agg #[i6 n])] 123
 rw[hw6]
 obtain⟨okp7,M8,hok9⟩:=Kd.M_apartO (kPiece_Mdel (w:=w) (base:=w.heap.size) (ok:=OkFrom w.heap.size) (n:=n)) hok hB hR (by decide)
 rw[←hw6]
 refine XL_appendO kPiece rfl rfl rfl wB.heap.size 123 .nilIface 16 Tryz.underlying82 info123 rfl (by decide) (by omega) (List.map pOf ps) (PieceA.del n) [.iface 126 (.agg #[i6 n])] okp7 (by kernel_rfl) M8 hok9 hR hok hB (by first|omega|(simp; omega)) ?_
 intro A10 c11 w12 r13 c14 g15 l16 a17
 have e18:((List.map pOf ps)++[(PieceA.del n)])=(List.map pOf (ps++[B.gone n])):=map_gone ps n
 rw[e18]at r13 ⊢
 refine xe0 1 [(4,.slice A10 ((List.map pOf (ps++[B.gone n])).length) c11)] ?_
 refine nl (X_ret (rj [.slice A10 ((List.map pOf (ps++[B.gone n])).length) c11] hR_ ?_))
 rw[show B.dels ps n=ps++[B.gone n]from if_neg c1]
 exact⟨_,_,rfl,r13,g15,a17⟩
theorem last_get {ps:List OpA}(h:ps.length≠0):(List.map pOf ps).getD (((List.map pOf ps).length:Int)-1).toNat piece0=pOf (B.lst ps):=by
 have hl:(List.map pOf ps).length=ps.length:=List.length_map ..
 rw[hl,show ((ps.length:Int)-1).toNat=ps.length-1 by omega]
 exact map_getD pOf op0 piece0 (by omega)
theorem push_set {ps:List OpA}{o:OpA}(h:ps.length≠0)(hm:B.meets (B.lst ps) o):(List.map pOf ps).set (((List.map pOf ps).length:Int)-1).toNat (pOf (B.jo (B.lst ps) o))=List.map pOf (B.push ps o):=by
 have hl:(List.map pOf ps).length=ps.length:=List.length_map ..
 rw[hl,show ((ps.length:Int)-1).toNat=ps.length-1 by omega]
 unfold B.push
 rw[if_pos ⟨h,hm⟩,List.map_set]
theorem push_app {ps:List OpA}{o:OpA}(h:ps.length=0∨¬B.meets (B.lst ps) o):List.map pOf ps++[pOf o]=List.map pOf (B.push ps o):=by
 rw[B.push_far h,List.map_append]; rfl
theorem lst_ok {ps:List OpA}(hb:badE ps=0)(h:ps.length≠0):pErr (B.lst ps)=0:=badE_getD hb (by omega)
theorem pOf_jins {a o:OpA}(ha:pErr a=0)(ho:pErr o=0)(k1:a.kind=1)(k2:o.kind=1):pOf (B.jo a o)=.ins a.attrs (a.text++o.text) (((U.sc a.text).length:Int)+((U.sc o.text).length:Int)):=by
 obtain⟨_,_,_,_,_,u1,_⟩:=B.ok_ins ha k1
 obtain⟨_,_,_,_,_,u2,_⟩:=B.ok_ins ho k2
 rw[pOf_ins (show (B.jo a o).kind=1 from k1)]
 show PieceA.ins a.attrs (a.text++o.text) ((U.sc (a.text++o.text)).length:Int)=_
 rw[(B.utf_app u1 u2).2,List.length_append,Int.natCast_add]
theorem pOf_jret {a o:OpA}(k1:a.kind=3):pOf (B.jo a o)=.ret a.attrs (a.count+o.count):=pOf_ret (show (B.jo a o).kind=3 from k1)
theorem pm_eq {w:World}{base:Nat}{ok:Nat→Prop}{p q:PieceA}{v:Value}(e:p=q)(h:kPiece.M w base ok q [v]):kPiece.M w base ok p [v]:=by rw[e]; exact h
theorem kPiece_one {w:World}{base:Nat}{ok:Nat→Prop}{p:PieceA}{cs:List Value}(h:kPiece.M w base ok p cs):∃ v,cs=[v]:=by
 have:=kPiece.K_len (kPiece.K_of_M h)
 match cs,this with
 | [v],_=>exact⟨v,rfl⟩
set_option maxHeartbeats 2000000 in
theorem bjoined_ins {ok:Nat→Prop}(A:Option Addr)(c:Nat)(ps:List OpA)(o:OpA)(D:Option Addr)(d:Nat)(wB w:World)(hB:wB.heap.size≤w.heap.size)(hk:o.kind=1)(ho:pErr o=0)(hb:badE ps=0)(hR:kPiece.R 123 w wB.heap.size ok (.slice A (List.map pOf ps).length c) (List.map pOf ps))(hok:∀ k,w.heap.size≤k→ok k)(hl:ps.length≤1000000000)
  (hD:kAttr.C w D o.attrs.length o.attrs) (hp:kPiece.M w wB.heap.size ok (pOf o) [.iface 153 (.agg #[.slice D o.attrs.length d,sT o.text,i6 ((U.sc o.text).length:Int)])]) (hot:o.text.size≤1000000000) (hlt:(B.lst ps).text.size≤1000000000):
  Calls Tryz.prog 63 #[.slice A (List.map pOf ps).length c,.iface 153 (.agg #[.slice D o.attrs.length d,sT o.text,i6 ((U.sc o.text).length:Int)])] w fun e w'=>∃ A' c',e=.returned (.slice A' (List.map pOf (B.push ps o)).length c')∧kPiece.R 123 w' wB.heap.size ok (.slice A' (List.map pOf (B.push ps o)).length c') (List.map pOf (B.push ps o))∧w.grownBy w' (A.map (·.block))∧(A'.map (·.block)=A.map (·.block)∨∃ b,A'.map (·.block)=some b∧w.heap.size≤b):=by
 have hlm:(List.map pOf ps).length=ps.length:=List.length_map ..
 have hs1:=U.sc_le o.text
 have hs2:=U.sc_le (B.lst ps).text
 have hco:=fun hk_=>count_of_ok ho hk_
 refine en Tryz.func63 rfl 96 [(0,.slice A ((List.map pOf ps).length) c),(1,.iface 153 (.agg #[.slice D o.attrs.length d,sT o.text,i6 ((U.sc o.text).length:Int)]))] (fun R_ hR_=>?_)
 refine sg (xe0 1 [(0,.slice A ((List.map pOf ps).length) c),(1,.iface 153 (.agg #[.slice D o.attrs.length d,sT o.text,i6 ((U.sc o.text).length:Int)]))] ?_)
 refine nl (sg (xr1 4 [(14,.eq (i6 (((List.map pOf ps).length:Int)-1)))] [(5,i6 (((List.map pOf ps).length:Int)-1))] [] (w6 (((List.map pOf ps).length:Int)-1)) ?_))
 refine nl (sq (sg (xr0 1 [(15,i6 (((List.map pOf ps).length:Int)-1))] [] ?_)))
 by_cases c1:((List.map pOf ps).length:Int)-1<0
 ·refine xr1 1 [(16,.eq bT)] [(16,bT)] [15] (dT c1) ?_
  refine nl (ct (sg (xwe 3 [] [(17,.slice A ((List.map pOf ps).length) c),(19,.slice (some ⟨w.heap.size,0,none⟩) 1 1)] (w.alloc (.cells #[.iface 153 (.agg #[.slice D o.attrs.length d,sT o.text,i6 ((U.sc o.text).length:Int)])] 123)) [] trivial ?_)))
  obtain⟨w2,hw6,b3,k4,z5⟩:=new_world w #[.iface 153 (.agg #[.slice D o.attrs.length d,sT o.text,i6 ((U.sc o.text).length:Int)])] 123
  rw[hw6]
  obtain⟨okp7,M8,hok9⟩:=Kd.M_apartO hp (fun _ h_=>h_) (Nat.le_refl _) hR (by decide)
  rw[←hw6]
  refine XL_appendO kPiece rfl rfl rfl wB.heap.size 123 .nilIface 16 Tryz.underlying82 info123 rfl (by decide) (by omega) (List.map pOf ps) (pOf o) [.iface 153 (.agg #[.slice D o.attrs.length d,sT o.text,i6 ((U.sc o.text).length:Int)])] okp7 (by kernel_rfl) M8 hok9 hR hok hB (by first|omega|(simp; omega)) ?_
  intro A10 c11 w12 r13 c14 g15 l16 a17
  have e18:((List.map pOf ps)++[(pOf o)])=(List.map pOf (B.push ps o)):=push_app (.inl (by omega))
  rw[e18]at r13 ⊢
  refine xe0 1 [(4,.slice A10 ((List.map pOf (B.push ps o)).length) c11)] ?_
  refine nl (X_ret (rj [.slice A10 ((List.map pOf (B.push ps o)).length) c11] hR_ ?_))
  exact⟨_,_,rfl,r13,g15,a17⟩
 have hne:ps.length≠0:=by omega
 refine xr1 1 [(16,.eq bF)] [(16,bF)] [15] (dF c1) ?_
 refine nl (cf (sk (sq (sg (xr0 2 [(21,.slice A ((List.map pOf ps).length) c),(22,i6 (((List.map pOf ps).length:Int)-1))] [16] ?_)))))
 obtain⟨ad19,cs22,a20,M23,c21⟩:=Kd.R_at piece0 hR (i:=((List.map pOf ps).length:Int)-1) (by omega) (by omega)
 obtain⟨v24,rfl⟩:=kPiece_one M23
 replace c21:CellsAt w (ad19.add ((((List.map pOf ps).length:Int)-1).toNat*1)) [v24]:=c21
 refine xr 1 [(23,.idx ad19)] [(23,.pointer (some (ad19.add ((((List.map pOf ps).length:Int)-1).toNat*1))))] [21,22] [A=some ad19,(0:Int)≤((List.map pOf ps).length:Int)-1,((List.map pOf ps).length:Int)-1<((List.map pOf ps).length:Int)] ⟨a20,(by omega),(by omega),trivial⟩ ?_
 rw[last_get hne]at M23
 have hla:=lst_ok hb hne
 have hcn:=fun hk_=>count_of_ok hla hk_
 rcases kind_of_ok hla with hlk|hlk|hlk|hlk
 ·rw[pOf_ins hlk]at M23
  obtain⟨A26,c27,e28,l29,R30⟩:=kPiece_insM M23
  obtain rfl:=(List.cons.inj e28).1
  refine xe 1 [(24,.load (.iface 153 (.agg #[.slice A26 ((B.lst ps).attrs.length) c27,sT ((B.lst ps).text),i6 ((U.sc (B.lst ps).text).length:Int)])))] [(0,.slice A ((List.map pOf ps).length) c),(1,.iface 153 (.agg #[.slice D o.attrs.length d,sT o.text,i6 ((U.sc o.text).length:Int)])),(5,i6 (((List.map pOf ps).length:Int)-1)),(24,.iface 153 (.agg #[.slice A26 ((B.lst ps).attrs.length) c27,sT ((B.lst ps).text),i6 ((U.sc (B.lst ps).text).length:Int)]))] [la 123 (ad19.add ((((List.map pOf ps).length:Int)-1).toNat*1)) (.iface 153 (.agg #[.slice A26 ((B.lst ps).attrs.length) c27,sT ((B.lst ps).text),i6 ((U.sc (B.lst ps).text).length:Int)])) w] ⟨loads1 rfl (elem_cell c21 0 _ rfl),trivial⟩ ?_
  refine nl (bk (sg (xr0 3 [(26,bT),(27,.agg #[.slice A26 ((B.lst ps).attrs.length) c27,sT ((B.lst ps).text),i6 ((U.sc (B.lst ps).text).length:Int)])] [] ?_)))
  refine nl (ct (sg (xw 1 [] [(6,pw w.heap.size 0)] [24,26] (w.alloc (.cells #[.slice none 0 0,s0,i6 0] 153)) [] trivial ?_)))
  obtain⟨w31,w35,b32,k33,z34⟩:=new_world w #[.slice none 0 0,s0,i6 0] 153
  rw[w35]
  refine xst (.agg #[.slice A26 ((B.lst ps).attrs.length) c27,sT ((B.lst ps).text),i6 ((U.sc (B.lst ps).text).length:Int)]) k33 0 #[.slice A26 ((B.lst ps).attrs.length) c27,sT ((B.lst ps).text),i6 ((U.sc (B.lst ps).text).length:Int)] (fun w36 g37 k38 z39=>?_)
  have r40:=Kd.R_off (Kd.R_below hR b32) k33 (by decide) g37
  refine nl (sg (xw 6 [] [(7,pw w36.heap.size 0),(31,.agg #[.slice D o.attrs.length d,sT o.text,i6 ((U.sc o.text).length:Int)]),(32,bT)] [27] (w36.alloc (.cells #[.slice none 0 0,s0,i6 0] 153)) [] trivial ?_))
  obtain⟨w41,w45,b42,k43,z44⟩:=new_world w36 #[.slice none 0 0,s0,i6 0] 153
  rw[w45]
  refine xst (.agg #[.slice D o.attrs.length d,sT o.text,i6 ((U.sc o.text).length:Int)]) k43 0 #[.slice D o.attrs.length d,sT o.text,i6 ((U.sc o.text).length:Int)] (fun w46 g47 k48 z49=>?_)
  have r50:=Kd.R_off (Kd.R_below r40 b42) k43 (by decide) g47
  refine xr0 1 [(8,bT)] [31,32] ?_
  refine nl (sg (xr 8 [(37,.load (.slice A26 ((B.lst ps).attrs.length) c27)),(40,.load (.slice D o.attrs.length d))] [(34,bT),(37,.slice A26 ((B.lst ps).attrs.length) c27),(40,.slice D o.attrs.length d)] [8] [_,_] ⟨lc 68 (Blk.below k38 (bg b42 g47 (Nat.le_refl _))) 0,lc 68 k48 0,trivial⟩ ?_))
  have B51:Below w.heap.size w w46:=(bg (bt (bg b32 g37 (Nat.le_refl _)) b42) g47 ((bg b32 g37 (Nat.le_refl _))).size)
  refine xc 75 ent75 [.slice A26 ((B.lst ps).attrs.length) c27,.slice D o.attrs.length d] (asame_any _ _ _ _ ((B.lst ps).attrs) o.attrs _ (Kd.C_below (Kd.R_C R30) B51) (Kd.C_below hD B51)) ?_
  rintro e w52 ⟨rfl,b53⟩; refine⟨_,rfl,?_⟩
  refine xe0 1 [(0,.slice A ((List.map pOf ps).length) c),(1,.iface 153 (.agg #[.slice D o.attrs.length d,sT o.text,i6 ((U.sc o.text).length:Int)])),(5,i6 (((List.map pOf ps).length:Int)-1)),(6,pw w.heap.size 0),(7,pw w36.heap.size 0),(42,.bool (decide ((B.lst ps).attrs=o.attrs)))] ?_
  refine nl ?_
  by_cases c54:decide ((B.lst ps).attrs=o.attrs)=true
  ·rw[show (decide ((B.lst ps).attrs=o.attrs):Bool)=true from by simpa using c54]
   refine ct (sq (X_region ?_))
   have B55:Below w36.heap.size w36 w52:=(bt (bg b42 g47 (Nat.le_refl _)) b53)
   refine xr 16 [(46,.load (.agg #[.slice A26 ((B.lst ps).attrs.length) c27])),(48,.load (sT ((B.lst ps).text))),(50,.load (sT o.text)),(51,.as (sT (((B.lst ps).text)++o.text))),(53,.load (i6 ((U.sc (B.lst ps).text).length:Int))),(55,.load (i6 ((U.sc o.text).length:Int))),(56,.eq (i6 (((U.sc (B.lst ps).text).length:Int)+((U.sc o.text).length:Int))))] [(43,.slice A ((List.map pOf ps).length) c),(44,i6 (((List.map pOf ps).length:Int)-1)),(58,.iface 153 (.agg #[.slice A26 ((B.lst ps).attrs.length) c27,sT (((B.lst ps).text)++o.text),i6 (((U.sc (B.lst ps).text).length:Int)+((U.sc o.text).length:Int))]))] [1,5,6,7,42] [la 129 (⟨w.heap.size,0,none⟩) (.agg #[.slice A26 ((B.lst ps).attrs.length) c27]) w52,_,_,RunsAs Tryz.prog [(48,sT ((B.lst ps).text)),(50,sT o.text)] (Go.Op.binOp Go.BinOp.add 9 (Go.Operand.tmp 48) (Go.Operand.tmp 50) 9) 9 (sT (((B.lst ps).text)++o.text)) w52,_,_,_] ⟨loadsB rfl rfl (Blk.below k38 B55) 0 ⟨by kernel_rfl,by kernel_rfl⟩,lc 9 (Blk.below k38 B55) 1,lc 9 (Blk.below k48 b53) 1,runs_bin rfl rfl rfl (run_sadd (by omega)),lc 3 (Blk.below k38 B55) 2,lc 3 (Blk.below k48 b53) 2,w6 (((U.sc (B.lst ps).text).length:Int)+((U.sc o.text).length:Int)),trivial⟩ ?_
   obtain⟨ad56,cs59,a57,M60,c58⟩:=Kd.R_at piece0 (Kd.R_below r50 b53) (i:=((List.map pOf ps).length:Int)-1) (by omega) (by omega)
   obtain⟨v61,rfl⟩:=kPiece_one M60
   replace c58:CellsAt w52 (ad56.add ((((List.map pOf ps).length:Int)-1).toNat*1)) [v61]:=c58
   refine xr 1 [(59,.idx ad56)] [(59,.pointer (some (ad56.add ((((List.map pOf ps).length:Int)-1).toNat*1))))] [43,44] [A=some ad56,(0:Int)≤((List.map pOf ps).length:Int)-1,((List.map pOf ps).length:Int)-1<((List.map pOf ps).length:Int)] ⟨a57,(by omega),(by omega),trivial⟩ ?_
   refine XL_rowsetMO kPiece rfl rfl rfl wB.heap.size 123 (ad:=ad56) (i:=((List.map pOf ps).length:Int)-1) (v:=.iface 153 (.agg #[.slice A26 ((B.lst ps).attrs.length) c27,sT (((B.lst ps).text)++o.text),i6 (((U.sc (B.lst ps).text).length:Int)+((U.sc o.text).length:Int))])) (List.map pOf ps) (pOf (B.jo (B.lst ps) o)) (by kernel_rfl) a57 (Kd.R_below r50 b53) (by omega) (by omega) [.iface 153 (.agg #[.slice A26 ((B.lst ps).attrs.length) c27,sT (((B.lst ps).text)++o.text),i6 (((U.sc (B.lst ps).text).length:Int)+((U.sc o.text).length:Int))])] ⟨by kernel_rfl,by kernel_rfl⟩ (by kernel_rfl) (pm_eq (pOf_jins hla ho hlk hk) (kPiece_Mins ⟨_,rfl,(Kd.R_below R30 (bt B51 b53))⟩)) ?_
   intro w63 r64 g65 l66
   rw[push_set hne ⟨hlk.trans hk.symm,by omega,of_decide_eq_true c54⟩]at r64
   refine nl (sg (xe0 2 [(4,.slice A ((List.map pOf ps).length) c)] ?_))
   refine nl (X_ret (rj [.slice A ((List.map pOf ps).length) c] hR_ ?_))
   have hln:(List.map pOf ps).length=(List.map pOf (B.push ps o)).length:=by rw[←push_set hne ⟨hlk.trans hk.symm,by omega,of_decide_eq_true c54⟩,List.length_set]
   have hR_:=r64
   rw[hln]at hR_ ⊢
   exact⟨_,_,rfl,hR_,(World.grownBy.trans (grown_of_below (bt B51 b53) (A.map (·.block))) g65),.inl rfl⟩
  rw[show (decide ((B.lst ps).attrs=o.attrs):Bool)=false from by simpa using c54]
  refine cf (sk (sg (xwe 3 [] [(92,.slice A ((List.map pOf ps).length) c),(94,.slice (some ⟨w52.heap.size,0,none⟩) 1 1)] (w52.alloc (.cells #[.iface 153 (.agg #[.slice D o.attrs.length d,sT o.text,i6 ((U.sc o.text).length:Int)])] 123)) [] trivial ?_)))
  obtain⟨w72,w76,b73,k74,z75⟩:=new_world w52 #[.iface 153 (.agg #[.slice D o.attrs.length d,sT o.text,i6 ((U.sc o.text).length:Int)])] 123
  rw[w76]
  obtain⟨okp77,M78,hok79⟩:=Kd.M_apartO (Kd.M_below hp (bt B51 b53)) (fun _ h_=>h_) (Nat.le_refl _) (Kd.R_below r50 b53) (by decide)
  rw[←w76]
  refine XL_appendO kPiece rfl rfl rfl wB.heap.size 123 .nilIface 16 Tryz.underlying82 info123 rfl (by decide) (by omega) (List.map pOf ps) (pOf o) [.iface 153 (.agg #[.slice D o.attrs.length d,sT o.text,i6 ((U.sc o.text).length:Int)])] okp77 (by kernel_rfl) M78 hok79 (Kd.R_below r50 b53) (fun k_ h_=>hok k_ (Nat.le_trans (Nat.le_trans (Nat.le_trans (Nat.le_trans (Nat.le_trans b32.size g37.size) b42.size) g47.size) b53.size) h_)) (Nat.le_trans hB (Nat.le_trans (Nat.le_trans (Nat.le_trans (Nat.le_trans b32.size g37.size) b42.size) g47.size) b53.size)) (by first|omega|(simp; omega)) ?_
  intro A80 c81 w_82 r83 c84 g85 l86 a87
  have e93:((List.map pOf ps)++[(pOf o)])=(List.map pOf (B.push ps o)):=push_app (.inr (fun h_=>c54 (decide_eq_true h_.2.2)))
  rw[e93]at r83 ⊢
  refine xe0 1 [(4,.slice A80 ((List.map pOf (B.push ps o)).length) c81)] ?_
  refine nl (X_ret (rj [.slice A80 ((List.map pOf (B.push ps o)).length) c81] hR_ ?_))
  exact⟨_,_,rfl,r83,(World.grownBy.trans (grown_of_below (bt B51 b53) (A.map (·.block))) g85),(a87.imp id (fun⟨b_,h1_,h2_⟩=>⟨b_,h1_,Nat.le_trans ((bt B51 b53)).size h2_⟩))⟩
 ·rw[pOf_emb hlk]at M23
  obtain⟨A94,c95,e96,l97,R98⟩:=kPiece_embM M23
  obtain rfl:=(List.cons.inj e96).1
  have hval:(B.lst ps).val=((B.lst ps).vk,(B.lst ps).vn,(B.lst ps).vt):=rfl
  rw[hval]at c21
  refine xe 1 [(24,.load (.iface 157 (.agg #[.slice A94 ((B.lst ps).attrs.length) c95,sT ((B.lst ps).text),valV ((B.lst ps).vk,(B.lst ps).vn,(B.lst ps).vt)])))] [(0,.slice A ((List.map pOf ps).length) c),(1,.iface 153 (.agg #[.slice D o.attrs.length d,sT o.text,i6 ((U.sc o.text).length:Int)])),(5,i6 (((List.map pOf ps).length:Int)-1)),(24,.iface 157 (.agg #[.slice A94 ((B.lst ps).attrs.length) c95,sT ((B.lst ps).text),valV ((B.lst ps).vk,(B.lst ps).vn,(B.lst ps).vt)]))] [la 123 (ad19.add ((((List.map pOf ps).length:Int)-1).toNat*1)) (.iface 157 (.agg #[.slice A94 ((B.lst ps).attrs.length) c95,sT ((B.lst ps).text),valV ((B.lst ps).vk,(B.lst ps).vn,(B.lst ps).vt)])) w] ⟨loads1 rfl (elem_cell c21 0 _ rfl),trivial⟩ ?_
  refine nl (bk (sg (xr0 3 [(26,bF),(27,.agg #[.slice none 0 0,s0,i6 0])] [] ?_)))
  refine nl (cf (sg (xr0 3 [(62,bF),(63,.agg #[.slice none 0 0,i6 0])] [24,26,27] ?_)))
  refine nl (cf (sk (sg (xwe 3 [] [(92,.slice A ((List.map pOf ps).length) c),(94,.slice (some ⟨w.heap.size,0,none⟩) 1 1)] (w.alloc (.cells #[.iface 153 (.agg #[.slice D o.attrs.length d,sT o.text,i6 ((U.sc o.text).length:Int)])] 123)) [] trivial ?_))))
  obtain⟨w99,w103,b100,k101,z102⟩:=new_world w #[.iface 153 (.agg #[.slice D o.attrs.length d,sT o.text,i6 ((U.sc o.text).length:Int)])] 123
  rw[w103]
  obtain⟨okp104,M105,hok106⟩:=Kd.M_apartO hp (fun _ h_=>h_) (Nat.le_refl _) hR (by decide)
  rw[←w103]
  refine XL_appendO kPiece rfl rfl rfl wB.heap.size 123 .nilIface 16 Tryz.underlying82 info123 rfl (by decide) (by omega) (List.map pOf ps) (pOf o) [.iface 153 (.agg #[.slice D o.attrs.length d,sT o.text,i6 ((U.sc o.text).length:Int)])] okp104 (by kernel_rfl) M105 hok106 hR hok hB (by first|omega|(simp; omega)) ?_
  intro A107 c108 w109 r110 c111 g112 l113 a114
  have e115:((List.map pOf ps)++[(pOf o)])=(List.map pOf (B.push ps o)):=push_app (.inr (fun h_=>by have h1_:=h_.1; have h2_:=h_.2.1; omega))
  rw[e115]at r110 ⊢
  refine xe0 1 [(4,.slice A107 ((List.map pOf (B.push ps o)).length) c108)] ?_
  refine nl (X_ret (rj [.slice A107 ((List.map pOf (B.push ps o)).length) c108] hR_ ?_))
  exact⟨_,_,rfl,r110,g112,a114⟩
 ·rw[pOf_ret hlk]at M23
  obtain⟨A116,c117,e118,l119,R120⟩:=kPiece_retM M23
  obtain rfl:=(List.cons.inj e118).1
  have hcc:=hcn (.inl hlk)
  refine xe 1 [(24,.load (.iface 131 (.agg #[.slice A116 ((B.lst ps).attrs.length) c117,i6 ((B.lst ps).count)])))] [(0,.slice A ((List.map pOf ps).length) c),(1,.iface 153 (.agg #[.slice D o.attrs.length d,sT o.text,i6 ((U.sc o.text).length:Int)])),(5,i6 (((List.map pOf ps).length:Int)-1)),(24,.iface 131 (.agg #[.slice A116 ((B.lst ps).attrs.length) c117,i6 ((B.lst ps).count)]))] [la 123 (ad19.add ((((List.map pOf ps).length:Int)-1).toNat*1)) (.iface 131 (.agg #[.slice A116 ((B.lst ps).attrs.length) c117,i6 ((B.lst ps).count)])) w] ⟨loads1 rfl (elem_cell c21 0 _ rfl),trivial⟩ ?_
  refine nl (bk (sg (xr0 3 [(26,bF),(27,.agg #[.slice none 0 0,s0,i6 0])] [] ?_)))
  refine nl (cf (sg (xr0 3 [(62,bT),(63,.agg #[.slice A116 ((B.lst ps).attrs.length) c117,i6 ((B.lst ps).count)])] [24,26,27] ?_)))
  refine nl (ct (sg (xw 1 [] [(9,pw w.heap.size 0)] [62] (w.alloc (.cells #[.slice none 0 0,i6 0] 131)) [] trivial ?_)))
  obtain⟨w121,w125,b122,k123,z124⟩:=new_world w #[.slice none 0 0,i6 0] 131
  rw[w125]
  refine xst (.agg #[.slice A116 ((B.lst ps).attrs.length) c117,i6 ((B.lst ps).count)]) k123 0 #[.slice A116 ((B.lst ps).attrs.length) c117,i6 ((B.lst ps).count)] (fun w126 g127 k128 z129=>?_)
  have r130:=Kd.R_off (Kd.R_below hR b122) k123 (by decide) g127
  refine nl (sg (xw 6 [] [(10,pw w126.heap.size 0),(67,.agg #[.slice none 0 0,i6 0]),(68,bF)] [63] (w126.alloc (.cells #[.slice none 0 0,i6 0] 131)) [] trivial ?_))
  obtain⟨w131,w135,b132,k133,z134⟩:=new_world w126 #[.slice none 0 0,i6 0] 131
  rw[w135]
  refine xst (.agg #[.slice none 0 0,i6 0]) k133 0 #[.slice none 0 0,i6 0] (fun w136 g137 k138 z139=>?_)
  have r140:=Kd.R_off (Kd.R_below r130 b132) k133 (by decide) g137
  refine xr0 1 [(11,bF)] [67,68] ?_
  refine nl (sg (xe0 10 [(0,.slice A ((List.map pOf ps).length) c),(1,.iface 153 (.agg #[.slice D o.attrs.length d,sT o.text,i6 ((U.sc o.text).length:Int)])),(5,i6 (((List.map pOf ps).length:Int)-1)),(9,pw w.heap.size 0),(10,pw w126.heap.size 0),(78,bF)] ?_))
  refine nl (cf (sk (sg (xwe 3 [] [(92,.slice A ((List.map pOf ps).length) c),(94,.slice (some ⟨w136.heap.size,0,none⟩) 1 1)] (w136.alloc (.cells #[.iface 153 (.agg #[.slice D o.attrs.length d,sT o.text,i6 ((U.sc o.text).length:Int)])] 123)) [] trivial ?_))))
  obtain⟨w141,w145,b142,k143,z144⟩:=new_world w136 #[.iface 153 (.agg #[.slice D o.attrs.length d,sT o.text,i6 ((U.sc o.text).length:Int)])] 123
  rw[w145]
  have B149:Below w.heap.size w w136:=(bg (bt (bg b122 g127 (Nat.le_refl _)) b132) g137 ((bg b122 g127 (Nat.le_refl _))).size)
  obtain⟨okp146,M147,hok148⟩:=Kd.M_apartO (Kd.M_below hp B149) (fun _ h_=>h_) (Nat.le_refl _) r140 (by decide)
  rw[←w145]
  refine XL_appendO kPiece rfl rfl rfl wB.heap.size 123 .nilIface 16 Tryz.underlying82 info123 rfl (by decide) (by omega) (List.map pOf ps) (pOf o) [.iface 153 (.agg #[.slice D o.attrs.length d,sT o.text,i6 ((U.sc o.text).length:Int)])] okp146 (by kernel_rfl) M147 hok148 r140 (fun k_ h_=>hok k_ (Nat.le_trans (Nat.le_trans (Nat.le_trans (Nat.le_trans b122.size g127.size) b132.size) g137.size) h_)) (Nat.le_trans hB (Nat.le_trans (Nat.le_trans (Nat.le_trans b122.size g127.size) b132.size) g137.size)) (by first|omega|(simp; omega)) ?_
  intro A150 c151 w152 r153 c154 g155 l156 a157
  have e162:((List.map pOf ps)++[(pOf o)])=(List.map pOf (B.push ps o)):=push_app (.inr (fun h_=>by have h1_:=h_.1; have h2_:=h_.2.1; omega))
  rw[e162]at r153 ⊢
  refine xe0 1 [(4,.slice A150 ((List.map pOf (B.push ps o)).length) c151)] ?_
  refine nl (X_ret (rj [.slice A150 ((List.map pOf (B.push ps o)).length) c151] hR_ ?_))
  exact⟨_,_,rfl,r153,(World.grownBy.trans (grown_of_below B149 (A.map (·.block))) g155),(a157.imp id (fun⟨b_,h1_,h2_⟩=>⟨b_,h1_,Nat.le_trans (B149).size h2_⟩))⟩
 rw[pOf_del hlk]at M23
 have e165:=kPiece_del (kPiece.K_of_M M23)
 obtain rfl:=(List.cons.inj e165).1
 refine xe 1 [(24,.load (.iface 126 (.agg #[i6 ((B.lst ps).count)])))] [(0,.slice A ((List.map pOf ps).length) c),(1,.iface 153 (.agg #[.slice D o.attrs.length d,sT o.text,i6 ((U.sc o.text).length:Int)])),(5,i6 (((List.map pOf ps).length:Int)-1)),(24,.iface 126 (.agg #[i6 ((B.lst ps).count)]))] [la 123 (ad19.add ((((List.map pOf ps).length:Int)-1).toNat*1)) (.iface 126 (.agg #[i6 ((B.lst ps).count)])) w] ⟨loads1 rfl (elem_cell c21 0 _ rfl),trivial⟩ ?_
 refine nl (bk (sg (xr0 3 [(26,bF),(27,.agg #[.slice none 0 0,s0,i6 0])] [] ?_)))
 refine nl (cf (sg (xr0 3 [(62,bF),(63,.agg #[.slice none 0 0,i6 0])] [24,26,27] ?_)))
 refine nl (cf (sk (sg (xwe 3 [] [(92,.slice A ((List.map pOf ps).length) c),(94,.slice (some ⟨w.heap.size,0,none⟩) 1 1)] (w.alloc (.cells #[.iface 153 (.agg #[.slice D o.attrs.length d,sT o.text,i6 ((U.sc o.text).length:Int)])] 123)) [] trivial ?_))))
 obtain⟨w168,w172,b169,k170,z171⟩:=new_world w #[.iface 153 (.agg #[.slice D o.attrs.length d,sT o.text,i6 ((U.sc o.text).length:Int)])] 123
 rw[w172]
 obtain⟨okp173,M174,hok175⟩:=Kd.M_apartO hp (fun _ h_=>h_) (Nat.le_refl _) hR (by decide)
 rw[←w172]
 refine XL_appendO kPiece rfl rfl rfl wB.heap.size 123 .nilIface 16 Tryz.underlying82 info123 rfl (by decide) (by omega) (List.map pOf ps) (pOf o) [.iface 153 (.agg #[.slice D o.attrs.length d,sT o.text,i6 ((U.sc o.text).length:Int)])] okp173 (by kernel_rfl) M174 hok175 hR hok hB (by first|omega|(simp; omega)) ?_
 intro A176 c177 w178 r179 c180 g181 l182 a183
 have e184:((List.map pOf ps)++[(pOf o)])=(List.map pOf (B.push ps o)):=push_app (.inr (fun h_=>by have h1_:=h_.1; have h2_:=h_.2.1; omega))
 rw[e184]at r179 ⊢
 refine xe0 1 [(4,.slice A176 ((List.map pOf (B.push ps o)).length) c177)] ?_
 refine nl (X_ret (rj [.slice A176 ((List.map pOf (B.push ps o)).length) c177] hR_ ?_))
 exact⟨_,_,rfl,r179,g181,a183⟩
set_option maxHeartbeats 2000000 in
theorem bjoined_emb {ok:Nat→Prop}(A:Option Addr)(c:Nat)(ps:List OpA)(o:OpA)(D:Option Addr)(d:Nat)(wB w:World)(hB:wB.heap.size≤w.heap.size)(hk:o.kind=2)(ho:pErr o=0)(hb:badE ps=0)(hR:kPiece.R 123 w wB.heap.size ok (.slice A (List.map pOf ps).length c) (List.map pOf ps))(hok:∀ k,w.heap.size≤k→ok k)(hl:ps.length≤1000000000)
  (hD:kAttr.C w D o.attrs.length o.attrs) (hp:kPiece.M w wB.heap.size ok (pOf o) [.iface 157 (.agg #[.slice D o.attrs.length d,sT o.text,valV (o.vk,o.vn,o.vt)])]) (hot:o.text.size≤1000000000) (hlt:(B.lst ps).text.size≤1000000000):
  Calls Tryz.prog 63 #[.slice A (List.map pOf ps).length c,.iface 157 (.agg #[.slice D o.attrs.length d,sT o.text,valV (o.vk,o.vn,o.vt)])] w fun e w'=>∃ A' c',e=.returned (.slice A' (List.map pOf (B.push ps o)).length c')∧kPiece.R 123 w' wB.heap.size ok (.slice A' (List.map pOf (B.push ps o)).length c') (List.map pOf (B.push ps o))∧w.grownBy w' (A.map (·.block))∧(A'.map (·.block)=A.map (·.block)∨∃ b,A'.map (·.block)=some b∧w.heap.size≤b):=by
 have hlm:(List.map pOf ps).length=ps.length:=List.length_map ..
 have hs1:=U.sc_le o.text
 have hs2:=U.sc_le (B.lst ps).text
 have hco:=fun hk_=>count_of_ok ho hk_
 refine en Tryz.func63 rfl 96 [(0,.slice A ((List.map pOf ps).length) c),(1,.iface 157 (.agg #[.slice D o.attrs.length d,sT o.text,valV (o.vk,o.vn,o.vt)]))] (fun R_ hR_=>?_)
 refine sg (xe0 1 [(0,.slice A ((List.map pOf ps).length) c),(1,.iface 157 (.agg #[.slice D o.attrs.length d,sT o.text,valV (o.vk,o.vn,o.vt)]))] ?_)
 refine nl (sg (xr1 4 [(14,.eq (i6 (((List.map pOf ps).length:Int)-1)))] [(5,i6 (((List.map pOf ps).length:Int)-1))] [] (w6 (((List.map pOf ps).length:Int)-1)) ?_))
 refine nl (sq (sg (xr0 1 [(15,i6 (((List.map pOf ps).length:Int)-1))] [] ?_)))
 by_cases c1:((List.map pOf ps).length:Int)-1<0
 ·refine xr1 1 [(16,.eq bT)] [(16,bT)] [15] (dT c1) ?_
  refine nl (ct (sg (xwe 3 [] [(17,.slice A ((List.map pOf ps).length) c),(19,.slice (some ⟨w.heap.size,0,none⟩) 1 1)] (w.alloc (.cells #[.iface 157 (.agg #[.slice D o.attrs.length d,sT o.text,valV (o.vk,o.vn,o.vt)])] 123)) [] trivial ?_)))
  obtain⟨w2,hw6,b3,k4,z5⟩:=new_world w #[.iface 157 (.agg #[.slice D o.attrs.length d,sT o.text,valV (o.vk,o.vn,o.vt)])] 123
  rw[hw6]
  obtain⟨okp7,M8,hok9⟩:=Kd.M_apartO hp (fun _ h_=>h_) (Nat.le_refl _) hR (by decide)
  rw[←hw6]
  refine XL_appendO kPiece rfl rfl rfl wB.heap.size 123 .nilIface 16 Tryz.underlying82 info123 rfl (by decide) (by omega) (List.map pOf ps) (pOf o) [.iface 157 (.agg #[.slice D o.attrs.length d,sT o.text,valV (o.vk,o.vn,o.vt)])] okp7 (by kernel_rfl) M8 hok9 hR hok hB (by first|omega|(simp; omega)) ?_
  intro A10 c11 w12 r13 c14 g15 l16 a17
  have e18:((List.map pOf ps)++[(pOf o)])=(List.map pOf (B.push ps o)):=push_app (.inl (by omega))
  rw[e18]at r13 ⊢
  refine xe0 1 [(4,.slice A10 ((List.map pOf (B.push ps o)).length) c11)] ?_
  refine nl (X_ret (rj [.slice A10 ((List.map pOf (B.push ps o)).length) c11] hR_ ?_))
  exact⟨_,_,rfl,r13,g15,a17⟩
 have hne:ps.length≠0:=by omega
 refine xr1 1 [(16,.eq bF)] [(16,bF)] [15] (dF c1) ?_
 refine nl (cf (sk (sq (sg (xr0 2 [(21,.slice A ((List.map pOf ps).length) c),(22,i6 (((List.map pOf ps).length:Int)-1))] [16] ?_)))))
 obtain⟨ad19,cs22,a20,M23,c21⟩:=Kd.R_at piece0 hR (i:=((List.map pOf ps).length:Int)-1) (by omega) (by omega)
 obtain⟨v24,rfl⟩:=kPiece_one M23
 replace c21:CellsAt w (ad19.add ((((List.map pOf ps).length:Int)-1).toNat*1)) [v24]:=c21
 refine xr 1 [(23,.idx ad19)] [(23,.pointer (some (ad19.add ((((List.map pOf ps).length:Int)-1).toNat*1))))] [21,22] [A=some ad19,(0:Int)≤((List.map pOf ps).length:Int)-1,((List.map pOf ps).length:Int)-1<((List.map pOf ps).length:Int)] ⟨a20,(by omega),(by omega),trivial⟩ ?_
 rw[last_get hne]at M23
 have hla:=lst_ok hb hne
 have hcn:=fun hk_=>count_of_ok hla hk_
 rcases kind_of_ok hla with hlk|hlk|hlk|hlk
 ·rw[pOf_ins hlk]at M23
  obtain⟨A26,c27,e28,l29,R30⟩:=kPiece_insM M23
  obtain rfl:=(List.cons.inj e28).1
  refine xe 1 [(24,.load (.iface 153 (.agg #[.slice A26 ((B.lst ps).attrs.length) c27,sT ((B.lst ps).text),i6 ((U.sc (B.lst ps).text).length:Int)])))] [(0,.slice A ((List.map pOf ps).length) c),(1,.iface 157 (.agg #[.slice D o.attrs.length d,sT o.text,valV (o.vk,o.vn,o.vt)])),(5,i6 (((List.map pOf ps).length:Int)-1)),(24,.iface 153 (.agg #[.slice A26 ((B.lst ps).attrs.length) c27,sT ((B.lst ps).text),i6 ((U.sc (B.lst ps).text).length:Int)]))] [la 123 (ad19.add ((((List.map pOf ps).length:Int)-1).toNat*1)) (.iface 153 (.agg #[.slice A26 ((B.lst ps).attrs.length) c27,sT ((B.lst ps).text),i6 ((U.sc (B.lst ps).text).length:Int)])) w] ⟨loads1 rfl (elem_cell c21 0 _ rfl),trivial⟩ ?_
  refine nl (bk (sg (xr0 3 [(26,bT),(27,.agg #[.slice A26 ((B.lst ps).attrs.length) c27,sT ((B.lst ps).text),i6 ((U.sc (B.lst ps).text).length:Int)])] [] ?_)))
  refine nl (ct (sg (xw 1 [] [(6,pw w.heap.size 0)] [24,26] (w.alloc (.cells #[.slice none 0 0,s0,i6 0] 153)) [] trivial ?_)))
  obtain⟨w31,w35,b32,k33,z34⟩:=new_world w #[.slice none 0 0,s0,i6 0] 153
  rw[w35]
  refine xst (.agg #[.slice A26 ((B.lst ps).attrs.length) c27,sT ((B.lst ps).text),i6 ((U.sc (B.lst ps).text).length:Int)]) k33 0 #[.slice A26 ((B.lst ps).attrs.length) c27,sT ((B.lst ps).text),i6 ((U.sc (B.lst ps).text).length:Int)] (fun w36 g37 k38 z39=>?_)
  have r40:=Kd.R_off (Kd.R_below hR b32) k33 (by decide) g37
  refine nl (sg (xw 6 [] [(7,pw w36.heap.size 0),(31,.agg #[.slice none 0 0,s0,i6 0]),(32,bF)] [27] (w36.alloc (.cells #[.slice none 0 0,s0,i6 0] 153)) [] trivial ?_))
  obtain⟨w41,w45,b42,k43,z44⟩:=new_world w36 #[.slice none 0 0,s0,i6 0] 153
  rw[w45]
  refine xst (.agg #[.slice none 0 0,s0,i6 0]) k43 0 #[.slice none 0 0,s0,i6 0] (fun w46 g47 k48 z49=>?_)
  have r50:=Kd.R_off (Kd.R_below r40 b42) k43 (by decide) g47
  refine xr0 1 [(8,bF)] [31,32] ?_
  refine nl (sg (xr0 10 [(42,bF)] [8] ?_))
  refine nl (cf (sk (sg (xwe 3 [] [(92,.slice A ((List.map pOf ps).length) c),(94,.slice (some ⟨w46.heap.size,0,none⟩) 1 1)] (w46.alloc (.cells #[.iface 157 (.agg #[.slice D o.attrs.length d,sT o.text,valV (o.vk,o.vn,o.vt)])] 123)) [] trivial ?_))))
  obtain⟨w51,w55,b52,k53,z54⟩:=new_world w46 #[.iface 157 (.agg #[.slice D o.attrs.length d,sT o.text,valV (o.vk,o.vn,o.vt)])] 123
  rw[w55]
  have B59:Below w.heap.size w w46:=(bg (bt (bg b32 g37 (Nat.le_refl _)) b42) g47 ((bg b32 g37 (Nat.le_refl _))).size)
  obtain⟨okp56,M57,hok58⟩:=Kd.M_apartO (Kd.M_below hp B59) (fun _ h_=>h_) (Nat.le_refl _) r50 (by decide)
  rw[←w55]
  refine XL_appendO kPiece rfl rfl rfl wB.heap.size 123 .nilIface 16 Tryz.underlying82 info123 rfl (by decide) (by omega) (List.map pOf ps) (pOf o) [.iface 157 (.agg #[.slice D o.attrs.length d,sT o.text,valV (o.vk,o.vn,o.vt)])] okp56 (by kernel_rfl) M57 hok58 r50 (fun k_ h_=>hok k_ (Nat.le_trans (Nat.le_trans (Nat.le_trans (Nat.le_trans b32.size g37.size) b42.size) g47.size) h_)) (Nat.le_trans hB (Nat.le_trans (Nat.le_trans (Nat.le_trans b32.size g37.size) b42.size) g47.size)) (by first|omega|(simp; omega)) ?_
  intro A60 c61 w62 r63 c64 g65 l66 a67
  have e72:((List.map pOf ps)++[(pOf o)])=(List.map pOf (B.push ps o)):=push_app (.inr (fun h_=>by have h1_:=h_.1; have h2_:=h_.2.1; omega))
  rw[e72]at r63 ⊢
  refine xe0 1 [(4,.slice A60 ((List.map pOf (B.push ps o)).length) c61)] ?_
  refine nl (X_ret (rj [.slice A60 ((List.map pOf (B.push ps o)).length) c61] hR_ ?_))
  exact⟨_,_,rfl,r63,(World.grownBy.trans (grown_of_below B59 (A.map (·.block))) g65),(a67.imp id (fun⟨b_,h1_,h2_⟩=>⟨b_,h1_,Nat.le_trans (B59).size h2_⟩))⟩
 ·rw[pOf_emb hlk]at M23
  obtain⟨A73,c74,e75,l76,R77⟩:=kPiece_embM M23
  obtain rfl:=(List.cons.inj e75).1
  have hval:(B.lst ps).val=((B.lst ps).vk,(B.lst ps).vn,(B.lst ps).vt):=rfl
  rw[hval]at c21
  refine xe 1 [(24,.load (.iface 157 (.agg #[.slice A73 ((B.lst ps).attrs.length) c74,sT ((B.lst ps).text),valV ((B.lst ps).vk,(B.lst ps).vn,(B.lst ps).vt)])))] [(0,.slice A ((List.map pOf ps).length) c),(1,.iface 157 (.agg #[.slice D o.attrs.length d,sT o.text,valV (o.vk,o.vn,o.vt)])),(5,i6 (((List.map pOf ps).length:Int)-1)),(24,.iface 157 (.agg #[.slice A73 ((B.lst ps).attrs.length) c74,sT ((B.lst ps).text),valV ((B.lst ps).vk,(B.lst ps).vn,(B.lst ps).vt)]))] [la 123 (ad19.add ((((List.map pOf ps).length:Int)-1).toNat*1)) (.iface 157 (.agg #[.slice A73 ((B.lst ps).attrs.length) c74,sT ((B.lst ps).text),valV ((B.lst ps).vk,(B.lst ps).vn,(B.lst ps).vt)])) w] ⟨loads1 rfl (elem_cell c21 0 _ rfl),trivial⟩ ?_
  refine nl (bk (sg (xr0 3 [(26,bF),(27,.agg #[.slice none 0 0,s0,i6 0])] [] ?_)))
  refine nl (cf (sg (xr0 3 [(62,bF),(63,.agg #[.slice none 0 0,i6 0])] [24,26,27] ?_)))
  refine nl (cf (sk (sg (xwe 3 [] [(92,.slice A ((List.map pOf ps).length) c),(94,.slice (some ⟨w.heap.size,0,none⟩) 1 1)] (w.alloc (.cells #[.iface 157 (.agg #[.slice D o.attrs.length d,sT o.text,valV (o.vk,o.vn,o.vt)])] 123)) [] trivial ?_))))
  obtain⟨w78,w82,b79,k80,z81⟩:=new_world w #[.iface 157 (.agg #[.slice D o.attrs.length d,sT o.text,valV (o.vk,o.vn,o.vt)])] 123
  rw[w82]
  obtain⟨okp83,M84,hok85⟩:=Kd.M_apartO hp (fun _ h_=>h_) (Nat.le_refl _) hR (by decide)
  rw[←w82]
  refine XL_appendO kPiece rfl rfl rfl wB.heap.size 123 .nilIface 16 Tryz.underlying82 info123 rfl (by decide) (by omega) (List.map pOf ps) (pOf o) [.iface 157 (.agg #[.slice D o.attrs.length d,sT o.text,valV (o.vk,o.vn,o.vt)])] okp83 (by kernel_rfl) M84 hok85 hR hok hB (by first|omega|(simp; omega)) ?_
  intro A86 c87 w88 r89 c90 g91 l92 a93
  have e94:((List.map pOf ps)++[(pOf o)])=(List.map pOf (B.push ps o)):=push_app (.inr (fun h_=>by have h1_:=h_.1; have h2_:=h_.2.1; omega))
  rw[e94]at r89 ⊢
  refine xe0 1 [(4,.slice A86 ((List.map pOf (B.push ps o)).length) c87)] ?_
  refine nl (X_ret (rj [.slice A86 ((List.map pOf (B.push ps o)).length) c87] hR_ ?_))
  exact⟨_,_,rfl,r89,g91,a93⟩
 ·rw[pOf_ret hlk]at M23
  obtain⟨A95,c96,e97,l98,R99⟩:=kPiece_retM M23
  obtain rfl:=(List.cons.inj e97).1
  have hcc:=hcn (.inl hlk)
  refine xe 1 [(24,.load (.iface 131 (.agg #[.slice A95 ((B.lst ps).attrs.length) c96,i6 ((B.lst ps).count)])))] [(0,.slice A ((List.map pOf ps).length) c),(1,.iface 157 (.agg #[.slice D o.attrs.length d,sT o.text,valV (o.vk,o.vn,o.vt)])),(5,i6 (((List.map pOf ps).length:Int)-1)),(24,.iface 131 (.agg #[.slice A95 ((B.lst ps).attrs.length) c96,i6 ((B.lst ps).count)]))] [la 123 (ad19.add ((((List.map pOf ps).length:Int)-1).toNat*1)) (.iface 131 (.agg #[.slice A95 ((B.lst ps).attrs.length) c96,i6 ((B.lst ps).count)])) w] ⟨loads1 rfl (elem_cell c21 0 _ rfl),trivial⟩ ?_
  refine nl (bk (sg (xr0 3 [(26,bF),(27,.agg #[.slice none 0 0,s0,i6 0])] [] ?_)))
  refine nl (cf (sg (xr0 3 [(62,bT),(63,.agg #[.slice A95 ((B.lst ps).attrs.length) c96,i6 ((B.lst ps).count)])] [24,26,27] ?_)))
  refine nl (ct (sg (xw 1 [] [(9,pw w.heap.size 0)] [62] (w.alloc (.cells #[.slice none 0 0,i6 0] 131)) [] trivial ?_)))
  obtain⟨w100,w104,b101,k102,z103⟩:=new_world w #[.slice none 0 0,i6 0] 131
  rw[w104]
  refine xst (.agg #[.slice A95 ((B.lst ps).attrs.length) c96,i6 ((B.lst ps).count)]) k102 0 #[.slice A95 ((B.lst ps).attrs.length) c96,i6 ((B.lst ps).count)] (fun w105 g106 k107 z108=>?_)
  have r109:=Kd.R_off (Kd.R_below hR b101) k102 (by decide) g106
  refine nl (sg (xw 6 [] [(10,pw w105.heap.size 0),(67,.agg #[.slice none 0 0,i6 0]),(68,bF)] [63] (w105.alloc (.cells #[.slice none 0 0,i6 0] 131)) [] trivial ?_))
  obtain⟨w110,w114,b111,k112,z113⟩:=new_world w105 #[.slice none 0 0,i6 0] 131
  rw[w114]
  refine xst (.agg #[.slice none 0 0,i6 0]) k112 0 #[.slice none 0 0,i6 0] (fun w115 g116 k117 z118=>?_)
  have r119:=Kd.R_off (Kd.R_below r109 b111) k112 (by decide) g116
  refine xr0 1 [(11,bF)] [67,68] ?_
  refine nl (sg (xe0 10 [(0,.slice A ((List.map pOf ps).length) c),(1,.iface 157 (.agg #[.slice D o.attrs.length d,sT o.text,valV (o.vk,o.vn,o.vt)])),(5,i6 (((List.map pOf ps).length:Int)-1)),(9,pw w.heap.size 0),(10,pw w105.heap.size 0),(78,bF)] ?_))
  refine nl (cf (sk (sg (xwe 3 [] [(92,.slice A ((List.map pOf ps).length) c),(94,.slice (some ⟨w115.heap.size,0,none⟩) 1 1)] (w115.alloc (.cells #[.iface 157 (.agg #[.slice D o.attrs.length d,sT o.text,valV (o.vk,o.vn,o.vt)])] 123)) [] trivial ?_))))
  obtain⟨w120,w124,b121,k122,z123⟩:=new_world w115 #[.iface 157 (.agg #[.slice D o.attrs.length d,sT o.text,valV (o.vk,o.vn,o.vt)])] 123
  rw[w124]
  have B128:Below w.heap.size w w115:=(bg (bt (bg b101 g106 (Nat.le_refl _)) b111) g116 ((bg b101 g106 (Nat.le_refl _))).size)
  obtain⟨okp125,M126,hok127⟩:=Kd.M_apartO (Kd.M_below hp B128) (fun _ h_=>h_) (Nat.le_refl _) r119 (by decide)
  rw[←w124]
  refine XL_appendO kPiece rfl rfl rfl wB.heap.size 123 .nilIface 16 Tryz.underlying82 info123 rfl (by decide) (by omega) (List.map pOf ps) (pOf o) [.iface 157 (.agg #[.slice D o.attrs.length d,sT o.text,valV (o.vk,o.vn,o.vt)])] okp125 (by kernel_rfl) M126 hok127 r119 (fun k_ h_=>hok k_ (Nat.le_trans (Nat.le_trans (Nat.le_trans (Nat.le_trans b101.size g106.size) b111.size) g116.size) h_)) (Nat.le_trans hB (Nat.le_trans (Nat.le_trans (Nat.le_trans b101.size g106.size) b111.size) g116.size)) (by first|omega|(simp; omega)) ?_
  intro A129 c130 w131 r132 c133 g134 l135 a136
  have e141:((List.map pOf ps)++[(pOf o)])=(List.map pOf (B.push ps o)):=push_app (.inr (fun h_=>by have h1_:=h_.1; have h2_:=h_.2.1; omega))
  rw[e141]at r132 ⊢
  refine xe0 1 [(4,.slice A129 ((List.map pOf (B.push ps o)).length) c130)] ?_
  refine nl (X_ret (rj [.slice A129 ((List.map pOf (B.push ps o)).length) c130] hR_ ?_))
  exact⟨_,_,rfl,r132,(World.grownBy.trans (grown_of_below B128 (A.map (·.block))) g134),(a136.imp id (fun⟨b_,h1_,h2_⟩=>⟨b_,h1_,Nat.le_trans (B128).size h2_⟩))⟩
 rw[pOf_del hlk]at M23
 have e144:=kPiece_del (kPiece.K_of_M M23)
 obtain rfl:=(List.cons.inj e144).1
 refine xe 1 [(24,.load (.iface 126 (.agg #[i6 ((B.lst ps).count)])))] [(0,.slice A ((List.map pOf ps).length) c),(1,.iface 157 (.agg #[.slice D o.attrs.length d,sT o.text,valV (o.vk,o.vn,o.vt)])),(5,i6 (((List.map pOf ps).length:Int)-1)),(24,.iface 126 (.agg #[i6 ((B.lst ps).count)]))] [la 123 (ad19.add ((((List.map pOf ps).length:Int)-1).toNat*1)) (.iface 126 (.agg #[i6 ((B.lst ps).count)])) w] ⟨loads1 rfl (elem_cell c21 0 _ rfl),trivial⟩ ?_
 refine nl (bk (sg (xr0 3 [(26,bF),(27,.agg #[.slice none 0 0,s0,i6 0])] [] ?_)))
 refine nl (cf (sg (xr0 3 [(62,bF),(63,.agg #[.slice none 0 0,i6 0])] [24,26,27] ?_)))
 refine nl (cf (sk (sg (xwe 3 [] [(92,.slice A ((List.map pOf ps).length) c),(94,.slice (some ⟨w.heap.size,0,none⟩) 1 1)] (w.alloc (.cells #[.iface 157 (.agg #[.slice D o.attrs.length d,sT o.text,valV (o.vk,o.vn,o.vt)])] 123)) [] trivial ?_))))
 obtain⟨w147,w151,b148,k149,z150⟩:=new_world w #[.iface 157 (.agg #[.slice D o.attrs.length d,sT o.text,valV (o.vk,o.vn,o.vt)])] 123
 rw[w151]
 obtain⟨okp152,M153,hok154⟩:=Kd.M_apartO hp (fun _ h_=>h_) (Nat.le_refl _) hR (by decide)
 rw[←w151]
 refine XL_appendO kPiece rfl rfl rfl wB.heap.size 123 .nilIface 16 Tryz.underlying82 info123 rfl (by decide) (by omega) (List.map pOf ps) (pOf o) [.iface 157 (.agg #[.slice D o.attrs.length d,sT o.text,valV (o.vk,o.vn,o.vt)])] okp152 (by kernel_rfl) M153 hok154 hR hok hB (by first|omega|(simp; omega)) ?_
 intro A155 c156 w157 r158 c159 g160 l161 a162
 have e163:((List.map pOf ps)++[(pOf o)])=(List.map pOf (B.push ps o)):=push_app (.inr (fun h_=>by have h1_:=h_.1; have h2_:=h_.2.1; omega))
 rw[e163]at r158 ⊢
 refine xe0 1 [(4,.slice A155 ((List.map pOf (B.push ps o)).length) c156)] ?_
 refine nl (X_ret (rj [.slice A155 ((List.map pOf (B.push ps o)).length) c156] hR_ ?_))
 exact⟨_,_,rfl,r158,g160,a162⟩
set_option maxHeartbeats 2000000 in
theorem bjoined_ret {ok:Nat→Prop}(A:Option Addr)(c:Nat)(ps:List OpA)(o:OpA)(D:Option Addr)(d:Nat)(wB w:World)(hB:wB.heap.size≤w.heap.size)(hk:o.kind=3)(ho:pErr o=0)(hb:badE ps=0)(hR:kPiece.R 123 w wB.heap.size ok (.slice A (List.map pOf ps).length c) (List.map pOf ps))(hok:∀ k,w.heap.size≤k→ok k)(hl:ps.length≤1000000000)
  (hD:kAttr.C w D o.attrs.length o.attrs) (hp:kPiece.M w wB.heap.size ok (pOf o) [.iface 131 (.agg #[.slice D o.attrs.length d,i6 o.count])]) (hot:o.text.size≤1000000000) (hlt:(B.lst ps).text.size≤1000000000):
  Calls Tryz.prog 63 #[.slice A (List.map pOf ps).length c,.iface 131 (.agg #[.slice D o.attrs.length d,i6 o.count])] w fun e w'=>∃ A' c',e=.returned (.slice A' (List.map pOf (B.push ps o)).length c')∧kPiece.R 123 w' wB.heap.size ok (.slice A' (List.map pOf (B.push ps o)).length c') (List.map pOf (B.push ps o))∧w.grownBy w' (A.map (·.block))∧(A'.map (·.block)=A.map (·.block)∨∃ b,A'.map (·.block)=some b∧w.heap.size≤b):=by
 have hlm:(List.map pOf ps).length=ps.length:=List.length_map ..
 have hs1:=U.sc_le o.text
 have hs2:=U.sc_le (B.lst ps).text
 have hco:=fun hk_=>count_of_ok ho hk_
 have hcc2:=hco (.inl hk)
 refine en Tryz.func63 rfl 96 [(0,.slice A ((List.map pOf ps).length) c),(1,.iface 131 (.agg #[.slice D o.attrs.length d,i6 o.count]))] (fun R_ hR_=>?_)
 refine sg (xe0 1 [(0,.slice A ((List.map pOf ps).length) c),(1,.iface 131 (.agg #[.slice D o.attrs.length d,i6 o.count]))] ?_)
 refine nl (sg (xr1 4 [(14,.eq (i6 (((List.map pOf ps).length:Int)-1)))] [(5,i6 (((List.map pOf ps).length:Int)-1))] [] (w6 (((List.map pOf ps).length:Int)-1)) ?_))
 refine nl (sq (sg (xr0 1 [(15,i6 (((List.map pOf ps).length:Int)-1))] [] ?_)))
 by_cases c1:((List.map pOf ps).length:Int)-1<0
 ·refine xr1 1 [(16,.eq bT)] [(16,bT)] [15] (dT c1) ?_
  refine nl (ct (sg (xwe 3 [] [(17,.slice A ((List.map pOf ps).length) c),(19,.slice (some ⟨w.heap.size,0,none⟩) 1 1)] (w.alloc (.cells #[.iface 131 (.agg #[.slice D o.attrs.length d,i6 o.count])] 123)) [] trivial ?_)))
  obtain⟨w2,hw6,b3,k4,z5⟩:=new_world w #[.iface 131 (.agg #[.slice D o.attrs.length d,i6 o.count])] 123
  rw[hw6]
  obtain⟨okp7,M8,hok9⟩:=Kd.M_apartO hp (fun _ h_=>h_) (Nat.le_refl _) hR (by decide)
  rw[←hw6]
  refine XL_appendO kPiece rfl rfl rfl wB.heap.size 123 .nilIface 16 Tryz.underlying82 info123 rfl (by decide) (by omega) (List.map pOf ps) (pOf o) [.iface 131 (.agg #[.slice D o.attrs.length d,i6 o.count])] okp7 (by kernel_rfl) M8 hok9 hR hok hB (by first|omega|(simp; omega)) ?_
  intro A10 c11 w12 r13 c14 g15 l16 a17
  have e18:((List.map pOf ps)++[(pOf o)])=(List.map pOf (B.push ps o)):=push_app (.inl (by omega))
  rw[e18]at r13 ⊢
  refine xe0 1 [(4,.slice A10 ((List.map pOf (B.push ps o)).length) c11)] ?_
  refine nl (X_ret (rj [.slice A10 ((List.map pOf (B.push ps o)).length) c11] hR_ ?_))
  exact⟨_,_,rfl,r13,g15,a17⟩
 have hne:ps.length≠0:=by omega
 refine xr1 1 [(16,.eq bF)] [(16,bF)] [15] (dF c1) ?_
 refine nl (cf (sk (sq (sg (xr0 2 [(21,.slice A ((List.map pOf ps).length) c),(22,i6 (((List.map pOf ps).length:Int)-1))] [16] ?_)))))
 obtain⟨ad19,cs22,a20,M23,c21⟩:=Kd.R_at piece0 hR (i:=((List.map pOf ps).length:Int)-1) (by omega) (by omega)
 obtain⟨v24,rfl⟩:=kPiece_one M23
 replace c21:CellsAt w (ad19.add ((((List.map pOf ps).length:Int)-1).toNat*1)) [v24]:=c21
 refine xr 1 [(23,.idx ad19)] [(23,.pointer (some (ad19.add ((((List.map pOf ps).length:Int)-1).toNat*1))))] [21,22] [A=some ad19,(0:Int)≤((List.map pOf ps).length:Int)-1,((List.map pOf ps).length:Int)-1<((List.map pOf ps).length:Int)] ⟨a20,(by omega),(by omega),trivial⟩ ?_
 rw[last_get hne]at M23
 have hla:=lst_ok hb hne
 have hcn:=fun hk_=>count_of_ok hla hk_
 rcases kind_of_ok hla with hlk|hlk|hlk|hlk
 ·rw[pOf_ins hlk]at M23
  obtain⟨A26,c27,e28,l29,R30⟩:=kPiece_insM M23
  obtain rfl:=(List.cons.inj e28).1
  refine xe 1 [(24,.load (.iface 153 (.agg #[.slice A26 ((B.lst ps).attrs.length) c27,sT ((B.lst ps).text),i6 ((U.sc (B.lst ps).text).length:Int)])))] [(0,.slice A ((List.map pOf ps).length) c),(1,.iface 131 (.agg #[.slice D o.attrs.length d,i6 o.count])),(5,i6 (((List.map pOf ps).length:Int)-1)),(24,.iface 153 (.agg #[.slice A26 ((B.lst ps).attrs.length) c27,sT ((B.lst ps).text),i6 ((U.sc (B.lst ps).text).length:Int)]))] [la 123 (ad19.add ((((List.map pOf ps).length:Int)-1).toNat*1)) (.iface 153 (.agg #[.slice A26 ((B.lst ps).attrs.length) c27,sT ((B.lst ps).text),i6 ((U.sc (B.lst ps).text).length:Int)])) w] ⟨loads1 rfl (elem_cell c21 0 _ rfl),trivial⟩ ?_
  refine nl (bk (sg (xr0 3 [(26,bT),(27,.agg #[.slice A26 ((B.lst ps).attrs.length) c27,sT ((B.lst ps).text),i6 ((U.sc (B.lst ps).text).length:Int)])] [] ?_)))
  refine nl (ct (sg (xw 1 [] [(6,pw w.heap.size 0)] [24,26] (w.alloc (.cells #[.slice none 0 0,s0,i6 0] 153)) [] trivial ?_)))
  obtain⟨w31,w35,b32,k33,z34⟩:=new_world w #[.slice none 0 0,s0,i6 0] 153
  rw[w35]
  refine xst (.agg #[.slice A26 ((B.lst ps).attrs.length) c27,sT ((B.lst ps).text),i6 ((U.sc (B.lst ps).text).length:Int)]) k33 0 #[.slice A26 ((B.lst ps).attrs.length) c27,sT ((B.lst ps).text),i6 ((U.sc (B.lst ps).text).length:Int)] (fun w36 g37 k38 z39=>?_)
  have r40:=Kd.R_off (Kd.R_below hR b32) k33 (by decide) g37
  refine nl (sg (xw 6 [] [(7,pw w36.heap.size 0),(31,.agg #[.slice none 0 0,s0,i6 0]),(32,bF)] [27] (w36.alloc (.cells #[.slice none 0 0,s0,i6 0] 153)) [] trivial ?_))
  obtain⟨w41,w45,b42,k43,z44⟩:=new_world w36 #[.slice none 0 0,s0,i6 0] 153
  rw[w45]
  refine xst (.agg #[.slice none 0 0,s0,i6 0]) k43 0 #[.slice none 0 0,s0,i6 0] (fun w46 g47 k48 z49=>?_)
  have r50:=Kd.R_off (Kd.R_below r40 b42) k43 (by decide) g47
  refine xr0 1 [(8,bF)] [31,32] ?_
  refine nl (sg (xr0 10 [(42,bF)] [8] ?_))
  refine nl (cf (sk (sg (xwe 3 [] [(92,.slice A ((List.map pOf ps).length) c),(94,.slice (some ⟨w46.heap.size,0,none⟩) 1 1)] (w46.alloc (.cells #[.iface 131 (.agg #[.slice D o.attrs.length d,i6 o.count])] 123)) [] trivial ?_))))
  obtain⟨w51,w55,b52,k53,z54⟩:=new_world w46 #[.iface 131 (.agg #[.slice D o.attrs.length d,i6 o.count])] 123
  rw[w55]
  have B59:Below w.heap.size w w46:=(bg (bt (bg b32 g37 (Nat.le_refl _)) b42) g47 ((bg b32 g37 (Nat.le_refl _))).size)
  obtain⟨okp56,M57,hok58⟩:=Kd.M_apartO (Kd.M_below hp B59) (fun _ h_=>h_) (Nat.le_refl _) r50 (by decide)
  rw[←w55]
  refine XL_appendO kPiece rfl rfl rfl wB.heap.size 123 .nilIface 16 Tryz.underlying82 info123 rfl (by decide) (by omega) (List.map pOf ps) (pOf o) [.iface 131 (.agg #[.slice D o.attrs.length d,i6 o.count])] okp56 (by kernel_rfl) M57 hok58 r50 (fun k_ h_=>hok k_ (Nat.le_trans (Nat.le_trans (Nat.le_trans (Nat.le_trans b32.size g37.size) b42.size) g47.size) h_)) (Nat.le_trans hB (Nat.le_trans (Nat.le_trans (Nat.le_trans b32.size g37.size) b42.size) g47.size)) (by first|omega|(simp; omega)) ?_
  intro A60 c61 w62 r63 c64 g65 l66 a67
  have e72:((List.map pOf ps)++[(pOf o)])=(List.map pOf (B.push ps o)):=push_app (.inr (fun h_=>by have h1_:=h_.1; have h2_:=h_.2.1; omega))
  rw[e72]at r63 ⊢
  refine xe0 1 [(4,.slice A60 ((List.map pOf (B.push ps o)).length) c61)] ?_
  refine nl (X_ret (rj [.slice A60 ((List.map pOf (B.push ps o)).length) c61] hR_ ?_))
  exact⟨_,_,rfl,r63,(World.grownBy.trans (grown_of_below B59 (A.map (·.block))) g65),(a67.imp id (fun⟨b_,h1_,h2_⟩=>⟨b_,h1_,Nat.le_trans (B59).size h2_⟩))⟩
 ·rw[pOf_emb hlk]at M23
  obtain⟨A73,c74,e75,l76,R77⟩:=kPiece_embM M23
  obtain rfl:=(List.cons.inj e75).1
  have hval:(B.lst ps).val=((B.lst ps).vk,(B.lst ps).vn,(B.lst ps).vt):=rfl
  rw[hval]at c21
  refine xe 1 [(24,.load (.iface 157 (.agg #[.slice A73 ((B.lst ps).attrs.length) c74,sT ((B.lst ps).text),valV ((B.lst ps).vk,(B.lst ps).vn,(B.lst ps).vt)])))] [(0,.slice A ((List.map pOf ps).length) c),(1,.iface 131 (.agg #[.slice D o.attrs.length d,i6 o.count])),(5,i6 (((List.map pOf ps).length:Int)-1)),(24,.iface 157 (.agg #[.slice A73 ((B.lst ps).attrs.length) c74,sT ((B.lst ps).text),valV ((B.lst ps).vk,(B.lst ps).vn,(B.lst ps).vt)]))] [la 123 (ad19.add ((((List.map pOf ps).length:Int)-1).toNat*1)) (.iface 157 (.agg #[.slice A73 ((B.lst ps).attrs.length) c74,sT ((B.lst ps).text),valV ((B.lst ps).vk,(B.lst ps).vn,(B.lst ps).vt)])) w] ⟨loads1 rfl (elem_cell c21 0 _ rfl),trivial⟩ ?_
  refine nl (bk (sg (xr0 3 [(26,bF),(27,.agg #[.slice none 0 0,s0,i6 0])] [] ?_)))
  refine nl (cf (sg (xr0 3 [(62,bF),(63,.agg #[.slice none 0 0,i6 0])] [24,26,27] ?_)))
  refine nl (cf (sk (sg (xwe 3 [] [(92,.slice A ((List.map pOf ps).length) c),(94,.slice (some ⟨w.heap.size,0,none⟩) 1 1)] (w.alloc (.cells #[.iface 131 (.agg #[.slice D o.attrs.length d,i6 o.count])] 123)) [] trivial ?_))))
  obtain⟨w78,w82,b79,k80,z81⟩:=new_world w #[.iface 131 (.agg #[.slice D o.attrs.length d,i6 o.count])] 123
  rw[w82]
  obtain⟨okp83,M84,hok85⟩:=Kd.M_apartO hp (fun _ h_=>h_) (Nat.le_refl _) hR (by decide)
  rw[←w82]
  refine XL_appendO kPiece rfl rfl rfl wB.heap.size 123 .nilIface 16 Tryz.underlying82 info123 rfl (by decide) (by omega) (List.map pOf ps) (pOf o) [.iface 131 (.agg #[.slice D o.attrs.length d,i6 o.count])] okp83 (by kernel_rfl) M84 hok85 hR hok hB (by first|omega|(simp; omega)) ?_
  intro A86 c87 w88 r89 c90 g91 l92 a93
  have e94:((List.map pOf ps)++[(pOf o)])=(List.map pOf (B.push ps o)):=push_app (.inr (fun h_=>by have h1_:=h_.1; have h2_:=h_.2.1; omega))
  rw[e94]at r89 ⊢
  refine xe0 1 [(4,.slice A86 ((List.map pOf (B.push ps o)).length) c87)] ?_
  refine nl (X_ret (rj [.slice A86 ((List.map pOf (B.push ps o)).length) c87] hR_ ?_))
  exact⟨_,_,rfl,r89,g91,a93⟩
 ·rw[pOf_ret hlk]at M23
  obtain⟨A95,c96,e97,l98,R99⟩:=kPiece_retM M23
  obtain rfl:=(List.cons.inj e97).1
  have hcc:=hcn (.inl hlk)
  refine xe 1 [(24,.load (.iface 131 (.agg #[.slice A95 ((B.lst ps).attrs.length) c96,i6 ((B.lst ps).count)])))] [(0,.slice A ((List.map pOf ps).length) c),(1,.iface 131 (.agg #[.slice D o.attrs.length d,i6 o.count])),(5,i6 (((List.map pOf ps).length:Int)-1)),(24,.iface 131 (.agg #[.slice A95 ((B.lst ps).attrs.length) c96,i6 ((B.lst ps).count)]))] [la 123 (ad19.add ((((List.map pOf ps).length:Int)-1).toNat*1)) (.iface 131 (.agg #[.slice A95 ((B.lst ps).attrs.length) c96,i6 ((B.lst ps).count)])) w] ⟨loads1 rfl (elem_cell c21 0 _ rfl),trivial⟩ ?_
  refine nl (bk (sg (xr0 3 [(26,bF),(27,.agg #[.slice none 0 0,s0,i6 0])] [] ?_)))
  refine nl (cf (sg (xr0 3 [(62,bT),(63,.agg #[.slice A95 ((B.lst ps).attrs.length) c96,i6 ((B.lst ps).count)])] [24,26,27] ?_)))
  refine nl (ct (sg (xw 1 [] [(9,pw w.heap.size 0)] [62] (w.alloc (.cells #[.slice none 0 0,i6 0] 131)) [] trivial ?_)))
  obtain⟨w100,w104,b101,k102,z103⟩:=new_world w #[.slice none 0 0,i6 0] 131
  rw[w104]
  refine xst (.agg #[.slice A95 ((B.lst ps).attrs.length) c96,i6 ((B.lst ps).count)]) k102 0 #[.slice A95 ((B.lst ps).attrs.length) c96,i6 ((B.lst ps).count)] (fun w105 g106 k107 z108=>?_)
  have r109:=Kd.R_off (Kd.R_below hR b101) k102 (by decide) g106
  refine nl (sg (xw 6 [] [(10,pw w105.heap.size 0),(67,.agg #[.slice D o.attrs.length d,i6 o.count]),(68,bT)] [63] (w105.alloc (.cells #[.slice none 0 0,i6 0] 131)) [] trivial ?_))
  obtain⟨w110,w114,b111,k112,z113⟩:=new_world w105 #[.slice none 0 0,i6 0] 131
  rw[w114]
  refine xst (.agg #[.slice D o.attrs.length d,i6 o.count]) k112 0 #[.slice D o.attrs.length d,i6 o.count] (fun w115 g116 k117 z118=>?_)
  have r119:=Kd.R_off (Kd.R_below r109 b111) k112 (by decide) g116
  refine xr0 1 [(11,bT)] [67,68] ?_
  refine nl (sg (xe 8 [(73,.load (.slice A95 ((B.lst ps).attrs.length) c96)),(76,.load (.slice D o.attrs.length d))] [(0,.slice A ((List.map pOf ps).length) c),(1,.iface 131 (.agg #[.slice D o.attrs.length d,i6 o.count])),(5,i6 (((List.map pOf ps).length:Int)-1)),(9,pw w.heap.size 0),(10,pw w105.heap.size 0),(70,bT),(73,.slice A95 ((B.lst ps).attrs.length) c96),(76,.slice D o.attrs.length d)] [_,_] ⟨lc 68 (Blk.below k107 (bg b111 g116 (Nat.le_refl _))) 0,lc 68 k117 0,trivial⟩ ?_))
  have B120:Below w.heap.size w w115:=(bg (bt (bg b101 g106 (Nat.le_refl _)) b111) g116 ((bg b101 g106 (Nat.le_refl _))).size)
  refine xc 75 ent75 [.slice A95 ((B.lst ps).attrs.length) c96,.slice D o.attrs.length d] (asame_any _ _ _ _ ((B.lst ps).attrs) o.attrs _ (Kd.C_below (Kd.R_C R99) B120) (Kd.C_below hD B120)) ?_
  rintro e w121 ⟨rfl,b122⟩; refine⟨_,rfl,?_⟩
  refine xr0 1 [(78,.bool (decide ((B.lst ps).attrs=o.attrs)))] [70,73,76,77] ?_
  refine nl ?_
  by_cases c123:decide ((B.lst ps).attrs=o.attrs)=true
  ·rw[show (decide ((B.lst ps).attrs=o.attrs):Bool)=true from by simpa using c123]
   refine ct (sq (X_region ?_))
   have B124:Below w105.heap.size w105 w121:=(bt (bg b111 g116 (Nat.le_refl _)) b122)
   refine xr 11 [(82,.load (.agg #[.slice A95 ((B.lst ps).attrs.length) c96])),(84,.load (i6 ((B.lst ps).count))),(86,.load (i6 o.count)),(87,.eq (i6 (((B.lst ps).count)+o.count)))] [(79,.slice A ((List.map pOf ps).length) c),(80,i6 (((List.map pOf ps).length:Int)-1)),(89,.iface 131 (.agg #[.slice A95 ((B.lst ps).attrs.length) c96,i6 (((B.lst ps).count)+o.count)]))] [1,5,9,10,78] [la 129 (⟨w.heap.size,0,none⟩) (.agg #[.slice A95 ((B.lst ps).attrs.length) c96]) w121,_,_,_] ⟨loadsB rfl rfl (Blk.below k107 B124) 0 ⟨by kernel_rfl,by kernel_rfl⟩,lc 3 (Blk.below k107 B124) 1,lc 3 (Blk.below k117 b122) 1,w6 (((B.lst ps).count)+o.count),trivial⟩ ?_
   obtain⟨ad125,cs128,a126,M129,c127⟩:=Kd.R_at piece0 (Kd.R_below r119 b122) (i:=((List.map pOf ps).length:Int)-1) (by omega) (by omega)
   obtain⟨v130,rfl⟩:=kPiece_one M129
   replace c127:CellsAt w121 (ad125.add ((((List.map pOf ps).length:Int)-1).toNat*1)) [v130]:=c127
   refine xr 1 [(90,.idx ad125)] [(90,.pointer (some (ad125.add ((((List.map pOf ps).length:Int)-1).toNat*1))))] [79,80] [A=some ad125,(0:Int)≤((List.map pOf ps).length:Int)-1,((List.map pOf ps).length:Int)-1<((List.map pOf ps).length:Int)] ⟨a126,(by omega),(by omega),trivial⟩ ?_
   refine XL_rowsetMO kPiece rfl rfl rfl wB.heap.size 123 (ad:=ad125) (i:=((List.map pOf ps).length:Int)-1) (v:=.iface 131 (.agg #[.slice A95 ((B.lst ps).attrs.length) c96,i6 (((B.lst ps).count)+o.count)])) (List.map pOf ps) (pOf (B.jo (B.lst ps) o)) (by kernel_rfl) a126 (Kd.R_below r119 b122) (by omega) (by omega) [.iface 131 (.agg #[.slice A95 ((B.lst ps).attrs.length) c96,i6 (((B.lst ps).count)+o.count)])] ⟨by kernel_rfl,by kernel_rfl⟩ (by kernel_rfl) (pm_eq (pOf_jret hlk) (kPiece_Mret ⟨_,rfl,(Kd.R_below R99 (bt B120 b122))⟩)) ?_
   intro w132 r133 g134 l135
   rw[push_set hne ⟨hlk.trans hk.symm,by omega,of_decide_eq_true c123⟩]at r133
   refine nl (sg (xe0 2 [(4,.slice A ((List.map pOf ps).length) c)] ?_))
   refine nl (X_ret (rj [.slice A ((List.map pOf ps).length) c] hR_ ?_))
   have hln:(List.map pOf ps).length=(List.map pOf (B.push ps o)).length:=by rw[←push_set hne ⟨hlk.trans hk.symm,by omega,of_decide_eq_true c123⟩,List.length_set]
   have hR_:=r133
   rw[hln]at hR_ ⊢
   exact⟨_,_,rfl,hR_,(World.grownBy.trans (grown_of_below (bt B120 b122) (A.map (·.block))) g134),.inl rfl⟩
  rw[show (decide ((B.lst ps).attrs=o.attrs):Bool)=false from by simpa using c123]
  refine cf (sk (sg (xwe 3 [] [(92,.slice A ((List.map pOf ps).length) c),(94,.slice (some ⟨w121.heap.size,0,none⟩) 1 1)] (w121.alloc (.cells #[.iface 131 (.agg #[.slice D o.attrs.length d,i6 o.count])] 123)) [] trivial ?_)))
  obtain⟨w141,w145,b142,k143,z144⟩:=new_world w121 #[.iface 131 (.agg #[.slice D o.attrs.length d,i6 o.count])] 123
  rw[w145]
  obtain⟨okp146,M147,hok148⟩:=Kd.M_apartO (Kd.M_below hp (bt B120 b122)) (fun _ h_=>h_) (Nat.le_refl _) (Kd.R_below r119 b122) (by decide)
  rw[←w145]
  refine XL_appendO kPiece rfl rfl rfl wB.heap.size 123 .nilIface 16 Tryz.underlying82 info123 rfl (by decide) (by omega) (List.map pOf ps) (pOf o) [.iface 131 (.agg #[.slice D o.attrs.length d,i6 o.count])] okp146 (by kernel_rfl) M147 hok148 (Kd.R_below r119 b122) (fun k_ h_=>hok k_ (Nat.le_trans (Nat.le_trans (Nat.le_trans (Nat.le_trans (Nat.le_trans b101.size g106.size) b111.size) g116.size) b122.size) h_)) (Nat.le_trans hB (Nat.le_trans (Nat.le_trans (Nat.le_trans (Nat.le_trans b101.size g106.size) b111.size) g116.size) b122.size)) (by first|omega|(simp; omega)) ?_
  intro A149 c150 w_151 r152 c153 g154 l155 a156
  have e162:((List.map pOf ps)++[(pOf o)])=(List.map pOf (B.push ps o)):=push_app (.inr (fun h_=>c123 (decide_eq_true h_.2.2)))
  rw[e162]at r152 ⊢
  refine xe0 1 [(4,.slice A149 ((List.map pOf (B.push ps o)).length) c150)] ?_
  refine nl (X_ret (rj [.slice A149 ((List.map pOf (B.push ps o)).length) c150] hR_ ?_))
  exact⟨_,_,rfl,r152,(World.grownBy.trans (grown_of_below (bt B120 b122) (A.map (·.block))) g154),(a156.imp id (fun⟨b_,h1_,h2_⟩=>⟨b_,h1_,Nat.le_trans ((bt B120 b122)).size h2_⟩))⟩
 rw[pOf_del hlk]at M23
 have e165:=kPiece_del (kPiece.K_of_M M23)
 obtain rfl:=(List.cons.inj e165).1
 refine xe 1 [(24,.load (.iface 126 (.agg #[i6 ((B.lst ps).count)])))] [(0,.slice A ((List.map pOf ps).length) c),(1,.iface 131 (.agg #[.slice D o.attrs.length d,i6 o.count])),(5,i6 (((List.map pOf ps).length:Int)-1)),(24,.iface 126 (.agg #[i6 ((B.lst ps).count)]))] [la 123 (ad19.add ((((List.map pOf ps).length:Int)-1).toNat*1)) (.iface 126 (.agg #[i6 ((B.lst ps).count)])) w] ⟨loads1 rfl (elem_cell c21 0 _ rfl),trivial⟩ ?_
 refine nl (bk (sg (xr0 3 [(26,bF),(27,.agg #[.slice none 0 0,s0,i6 0])] [] ?_)))
 refine nl (cf (sg (xr0 3 [(62,bF),(63,.agg #[.slice none 0 0,i6 0])] [24,26,27] ?_)))
 refine nl (cf (sk (sg (xwe 3 [] [(92,.slice A ((List.map pOf ps).length) c),(94,.slice (some ⟨w.heap.size,0,none⟩) 1 1)] (w.alloc (.cells #[.iface 131 (.agg #[.slice D o.attrs.length d,i6 o.count])] 123)) [] trivial ?_))))
 obtain⟨w168,w172,b169,k170,z171⟩:=new_world w #[.iface 131 (.agg #[.slice D o.attrs.length d,i6 o.count])] 123
 rw[w172]
 obtain⟨okp173,M174,hok175⟩:=Kd.M_apartO hp (fun _ h_=>h_) (Nat.le_refl _) hR (by decide)
 rw[←w172]
 refine XL_appendO kPiece rfl rfl rfl wB.heap.size 123 .nilIface 16 Tryz.underlying82 info123 rfl (by decide) (by omega) (List.map pOf ps) (pOf o) [.iface 131 (.agg #[.slice D o.attrs.length d,i6 o.count])] okp173 (by kernel_rfl) M174 hok175 hR hok hB (by first|omega|(simp; omega)) ?_
 intro A176 c177 w178 r179 c180 g181 l182 a183
 have e184:((List.map pOf ps)++[(pOf o)])=(List.map pOf (B.push ps o)):=push_app (.inr (fun h_=>by have h1_:=h_.1; have h2_:=h_.2.1; omega))
 rw[e184]at r179 ⊢
 refine xe0 1 [(4,.slice A176 ((List.map pOf (B.push ps o)).length) c177)] ?_
 refine nl (X_ret (rj [.slice A176 ((List.map pOf (B.push ps o)).length) c177] hR_ ?_))
 exact⟨_,_,rfl,r179,g181,a183⟩
theorem pclone_any {ok:Nat→Prop}(A:Option Addr)(c:Nat)(ps:List OpA)(wB w:World)(hB:wB.heap.size≤w.heap.size)(hR:kPiece.R 123 w wB.heap.size ok (.slice A (List.map pOf ps).length c) (List.map pOf ps))(hok:∀ k,w.heap.size≤k→ok k)(hl:ps.length≤1000000000):
  Calls Tryz.prog 64 #[.slice A (List.map pOf ps).length c] w fun e w'=>∃ A' c',e=.returned (.slice A' (List.map pOf ps).length c')∧kPiece.R 123 w' wB.heap.size ok (.slice A' (List.map pOf ps).length c') (List.map pOf ps)∧(∀ k,A'.map (·.block)=some k→w.heap.size≤k)∧Below w.heap.size w w':=by
 have hlm:(List.map pOf ps).length=ps.length:=List.length_map ..
 refine en Tryz.func64 rfl 8 [(0,.slice A ((List.map pOf ps).length) c)] (fun R_ hR_=>?_)
 refine sg (xe0 1 [(0,.slice A ((List.map pOf ps).length) c)] ?_)
 refine nl (sq (sg (xr0 1 [(3,.slice A ((List.map pOf ps).length) c)] [] ?_)))
 by_cases c1:A=none
 ·refine xr 1 [(4,.as bT)] [(4,bT)] [3] [RunsAs Tryz.prog [(3,.slice A ((List.map pOf ps).length) c)] (Go.Op.binOp Go.BinOp.eql 82 (Go.Operand.tmp 3) (Go.Operand.const (Go.Value.slice none 0 0)) 82) 4 bT w] ⟨runs_bin rfl rfl rfl (by have h_:=Lib.run_eql_slice_nil (P:=Tryz.prog) w 82 123 A ((List.map pOf ps).length) c 0 0 Tryz.underlying82; rw[show A.isNone=true from by rw[c1]; rfl]at h_; exact h_),trivial⟩ ?_
  refine nl (ct (sg (xe0 1 [(2,.slice none 0 0)] ?_)))
  refine nl (X_ret (rj [.slice none 0 0] hR_ ?_))
  subst c1
  have hz_:=(RX.Kd.R_len hR)
  have h0_:List.map pOf ps=[]:=by have h_:=(Kd.R_C hR).2.2; by_cases hh:0<(List.map pOf ps).length; (· obtain⟨ad_,_,hA_,_⟩:=Kd.atC (Kd.R_C hR) piece0 (i:=0) (by omega) (by omega); cases hA_); (· exact List.eq_nil_of_length_eq_zero (by omega))
  rw[h0_]
  exact⟨none,0,rfl,Kd.R_nil _ _ _ _ _,fun _ h_=>(by cases h_),(Below.refl _ _)⟩
 refine xr 1 [(4,.as bF)] [(4,bF)] [3] [RunsAs Tryz.prog [(3,.slice A ((List.map pOf ps).length) c)] (Go.Op.binOp Go.BinOp.eql 82 (Go.Operand.tmp 3) (Go.Operand.const (Go.Value.slice none 0 0)) 82) 4 bF w] ⟨runs_bin rfl rfl rfl (by have h_:=Lib.run_eql_slice_nil (P:=Tryz.prog) w 82 123 A ((List.map pOf ps).length) c 0 0 Tryz.underlying82; rw[show A.isNone=false from by cases hA_:A with|none=>exact absurd hA_ c1|some _=>rfl]at h_; exact h_),trivial⟩ ?_
 refine nl (cf (sk (sg (xw 1 [] [(5,.slice (some ⟨w.heap.size,0,none⟩) 0 0)] [4] (w.alloc (.cells #[] 123)) [] trivial ?_))))
 obtain⟨w2,hw6,b3,k4,z5⟩:=new_world w #[] 123
 rw[hw6]
 refine xr0 1 [(6,.slice A ((List.map pOf ps).length) c)] [0] ?_
 have r7:=Kd.R_mono (Kd.R_lower (Kd.R_litB kPiece (W:=w) (e:=123) (cs:=#[]) [] k4 (Reps.none _ _) (by decide)) (show wB.heap.size≤w.heap.size from hB)) hok
 refine XL_appendRowO (c':=c) kPiece piece0 rfl rfl rfl wB.heap.size 123 .nilIface 16 Tryz.underlying82 info123 rfl (by decide) (by omega) rfl [] (List.map pOf ps) (by kernel_rfl) r7 (Kd.R_below hR b3) (fun k_ h_=>hok k_ (Nat.le_trans b3.size h_)) (Nat.le_trans hB b3.size) (by simp only[List.length_nil]; omega) ?_
 intro A8 c9 w10 r11 c12 g13 l14 a15
 rw[List.nil_append]at r11 c12 ⊢
 refine xe0 1 [(2,.slice A8 ((List.map pOf ps).length) c9)] ?_
 refine nl (X_ret (rj [.slice A8 ((List.map pOf ps).length) c9] hR_ ?_))
 have B16:Below w.heap.size w w10:=(bgo b3 g13 (fun x_ e_=>by injection e_ with e_; subst e_; exact Nat.le_refl _) (Nat.le_refl _))
 exact⟨_,_,rfl,r11,(fun k_ hk_=>by rcases a15 with h_|⟨b_,h_,h2_⟩; (· rw[h_]at hk_; injection hk_ with hk_; subst hk_; exact(Nat.le_refl _)); (· rw[h_]at hk_; injection hk_ with hk_; subst hk_; exact Nat.le_trans (b3).size h2_)),B16⟩
end Go.Proofs.YtlnnjfdonilgmaaGreatDoor
