import Derived.Test.YtlnnjfdonilgmaaGreatDoorA1
import Derived.Test.YtlnnjfdonilgmaaGreatDoorMap
import Derived.Test.YtlnnjfdonilgmaaGreatDoorK3
/- What vellumnum.list and Num answer. Condition: Errs. -/
set_option linter.unusedVariables false
set_option linter.unusedSimpArgs false
set_option maxRecDepth 100000
namespace Go.Proofs.YtlnnjfdonilgmaaGreatDoor
open Go Go.RowKit RX
theorem ent37 :Ent Tryz.prog 37:=ent_of Tryz.func37 (by kernel_rfl) rfl
theorem ent21 :Ent Tryz.prog 21:=ent_of Tryz.func21 (by kernel_rfl) rfl
theorem list_any (es:List Addr)(w:World)(h:Errs w es):Rt 37 #[] w (.agg (errAgg es)):=by
 refine en Tryz.func37 rfl 21 [] (fun R_ hR_=>?_)
 refine sg (xwe 1 [] [(0,pw w.heap.size 0)] (w.alloc (.cells #[.nilIface,.nilIface,.nilIface,.nilIface,.nilIface,.nilIface,.nilIface,.nilIface,.nilIface,.nilIface,.nilIface,.nilIface,.nilIface,.nilIface,.nilIface,.nilIface,.nilIface,.nilIface,.nilIface] 93)) [] trivial ?_)
 obtain⟨w1,w5,b2,k3,z4⟩:=new_world w #[.nilIface,.nilIface,.nilIface,.nilIface,.nilIface,.nilIface,.nilIface,.nilIface,.nilIface,.nilIface,.nilIface,.nilIface,.nilIface,.nilIface,.nilIface,.nilIface,.nilIface,.nilIface,.nilIface] 93
 rw[w5]
 refine nl (sg (xr 20 [(1,.load (.iface 208 (.pointer (some (errAt es 1))))),(2,.load (.iface 208 (.pointer (some (errAt es 2))))),(3,.load (.iface 208 (.pointer (some (errAt es 3))))),(4,.load (.iface 208 (.pointer (some (errAt es 4))))),(5,.load (.iface 208 (.pointer (some (errAt es 5))))),(6,.load (.iface 208 (.pointer (some (errAt es 6))))),(7,.load (.iface 208 (.pointer (some (errAt es 7))))),(8,.load (.iface 208 (.pointer (some (errAt es 8))))),(9,.load (.iface 208 (.pointer (some (errAt es 9))))),(10,.load (.iface 208 (.pointer (some (errAt es 10))))),(11,.load (.iface 208 (.pointer (some (errAt es 11))))),(12,.load (.iface 208 (.pointer (some (errAt es 12))))),(13,.load (.iface 208 (.pointer (some (errAt es 13))))),(14,.load (.iface 208 (.pointer (some (errAt es 14))))),(15,.load (.iface 208 (.pointer (some (errAt es 15))))),(16,.load (.iface 208 (.pointer (some (errAt es 16))))),(17,.load (.iface 208 (.pointer (some (errAt es 17))))),(18,.load (.iface 208 (.pointer (some (errAt es 18))))),(19,.load (.iface 208 (.pointer (some (errAt es 19)))))] [(20,.agg #[.iface 208 (.pointer (some (errAt es 1))),.iface 208 (.pointer (some (errAt es 2))),.iface 208 (.pointer (some (errAt es 3))),.iface 208 (.pointer (some (errAt es 4))),.iface 208 (.pointer (some (errAt es 5))),.iface 208 (.pointer (some (errAt es 6))),.iface 208 (.pointer (some (errAt es 7))),.iface 208 (.pointer (some (errAt es 8))),.iface 208 (.pointer (some (errAt es 9))),.iface 208 (.pointer (some (errAt es 10))),.iface 208 (.pointer (some (errAt es 11))),.iface 208 (.pointer (some (errAt es 12))),.iface 208 (.pointer (some (errAt es 13))),.iface 208 (.pointer (some (errAt es 14))),.iface 208 (.pointer (some (errAt es 15))),.iface 208 (.pointer (some (errAt es 16))),.iface 208 (.pointer (some (errAt es 17))),.iface 208 (.pointer (some (errAt es 18))),.iface 208 (.pointer (some (errAt es 19)))])] [] [la 45 (⟨4,0,none⟩) (.iface 208 (.pointer (some (errAt es 1)))) w1,la 45 (⟨5,0,none⟩) (.iface 208 (.pointer (some (errAt es 2)))) w1,la 45 (⟨6,0,none⟩) (.iface 208 (.pointer (some (errAt es 3)))) w1,la 45 (⟨7,0,none⟩) (.iface 208 (.pointer (some (errAt es 4)))) w1,la 45 (⟨8,0,none⟩) (.iface 208 (.pointer (some (errAt es 5)))) w1,la 45 (⟨1,0,none⟩) (.iface 208 (.pointer (some (errAt es 6)))) w1,la 45 (⟨9,0,none⟩) (.iface 208 (.pointer (some (errAt es 7)))) w1,la 45 (⟨10,0,none⟩) (.iface 208 (.pointer (some (errAt es 8)))) w1,la 45 (⟨11,0,none⟩) (.iface 208 (.pointer (some (errAt es 9)))) w1,la 45 (⟨12,0,none⟩) (.iface 208 (.pointer (some (errAt es 10)))) w1,la 45 (⟨3,0,none⟩) (.iface 208 (.pointer (some (errAt es 11)))) w1,la 45 (⟨2,0,none⟩) (.iface 208 (.pointer (some (errAt es 12)))) w1,la 45 (⟨13,0,none⟩) (.iface 208 (.pointer (some (errAt es 13)))) w1,la 45 (⟨14,0,none⟩) (.iface 208 (.pointer (some (errAt es 14)))) w1,la 45 (⟨15,0,none⟩) (.iface 208 (.pointer (some (errAt es 15)))) w1,la 45 (⟨0,0,none⟩) (.iface 208 (.pointer (some (errAt es 16)))) w1,la 45 (⟨16,0,none⟩) (.iface 208 (.pointer (some (errAt es 17)))) w1,la 45 (⟨17,0,none⟩) (.iface 208 (.pointer (some (errAt es 18)))) w1,la 45 (⟨18,0,none⟩) (.iface 208 (.pointer (some (errAt es 19)))) w1] ⟨loads1 rfl ((b2.cell (World.block_lt_of_cell? _ _ (h.load 1 4 (by decide) (by decide) rfl))).trans (h.load 1 4 (by decide) (by decide) rfl)),loads1 rfl ((b2.cell (World.block_lt_of_cell? _ _ (h.load 2 5 (by decide) (by decide) rfl))).trans (h.load 2 5 (by decide) (by decide) rfl)),loads1 rfl ((b2.cell (World.block_lt_of_cell? _ _ (h.load 3 6 (by decide) (by decide) rfl))).trans (h.load 3 6 (by decide) (by decide) rfl)),loads1 rfl ((b2.cell (World.block_lt_of_cell? _ _ (h.load 4 7 (by decide) (by decide) rfl))).trans (h.load 4 7 (by decide) (by decide) rfl)),loads1 rfl ((b2.cell (World.block_lt_of_cell? _ _ (h.load 5 8 (by decide) (by decide) rfl))).trans (h.load 5 8 (by decide) (by decide) rfl)),loads1 rfl ((b2.cell (World.block_lt_of_cell? _ _ (h.load 6 1 (by decide) (by decide) rfl))).trans (h.load 6 1 (by decide) (by decide) rfl)),loads1 rfl ((b2.cell (World.block_lt_of_cell? _ _ (h.load 7 9 (by decide) (by decide) rfl))).trans (h.load 7 9 (by decide) (by decide) rfl)),loads1 rfl ((b2.cell (World.block_lt_of_cell? _ _ (h.load 8 10 (by decide) (by decide) rfl))).trans (h.load 8 10 (by decide) (by decide) rfl)),loads1 rfl ((b2.cell (World.block_lt_of_cell? _ _ (h.load 9 11 (by decide) (by decide) rfl))).trans (h.load 9 11 (by decide) (by decide) rfl)),loads1 rfl ((b2.cell (World.block_lt_of_cell? _ _ (h.load 10 12 (by decide) (by decide) rfl))).trans (h.load 10 12 (by decide) (by decide) rfl)),loads1 rfl ((b2.cell (World.block_lt_of_cell? _ _ (h.load 11 3 (by decide) (by decide) rfl))).trans (h.load 11 3 (by decide) (by decide) rfl)),loads1 rfl ((b2.cell (World.block_lt_of_cell? _ _ (h.load 12 2 (by decide) (by decide) rfl))).trans (h.load 12 2 (by decide) (by decide) rfl)),loads1 rfl ((b2.cell (World.block_lt_of_cell? _ _ (h.load 13 13 (by decide) (by decide) rfl))).trans (h.load 13 13 (by decide) (by decide) rfl)),loads1 rfl ((b2.cell (World.block_lt_of_cell? _ _ (h.load 14 14 (by decide) (by decide) rfl))).trans (h.load 14 14 (by decide) (by decide) rfl)),loads1 rfl ((b2.cell (World.block_lt_of_cell? _ _ (h.load 15 15 (by decide) (by decide) rfl))).trans (h.load 15 15 (by decide) (by decide) rfl)),loads1 rfl ((b2.cell (World.block_lt_of_cell? _ _ (h.load 16 0 (by decide) (by decide) rfl))).trans (h.load 16 0 (by decide) (by decide) rfl)),loads1 rfl ((b2.cell (World.block_lt_of_cell? _ _ (h.load 17 16 (by decide) (by decide) rfl))).trans (h.load 17 16 (by decide) (by decide) rfl)),loads1 rfl ((b2.cell (World.block_lt_of_cell? _ _ (h.load 18 17 (by decide) (by decide) rfl))).trans (h.load 18 17 (by decide) (by decide) rfl)),loads1 rfl ((b2.cell (World.block_lt_of_cell? _ _ (h.load 19 18 (by decide) (by decide) rfl))).trans (h.load 19 18 (by decide) (by decide) rfl)),trivial⟩ ?_))
 refine xst (.agg #[.iface 208 (.pointer (some (errAt es 1))),.iface 208 (.pointer (some (errAt es 2))),.iface 208 (.pointer (some (errAt es 3))),.iface 208 (.pointer (some (errAt es 4))),.iface 208 (.pointer (some (errAt es 5))),.iface 208 (.pointer (some (errAt es 6))),.iface 208 (.pointer (some (errAt es 7))),.iface 208 (.pointer (some (errAt es 8))),.iface 208 (.pointer (some (errAt es 9))),.iface 208 (.pointer (some (errAt es 10))),.iface 208 (.pointer (some (errAt es 11))),.iface 208 (.pointer (some (errAt es 12))),.iface 208 (.pointer (some (errAt es 13))),.iface 208 (.pointer (some (errAt es 14))),.iface 208 (.pointer (some (errAt es 15))),.iface 208 (.pointer (some (errAt es 16))),.iface 208 (.pointer (some (errAt es 17))),.iface 208 (.pointer (some (errAt es 18))),.iface 208 (.pointer (some (errAt es 19)))]) k3 0 #[.iface 208 (.pointer (some (errAt es 1))),.iface 208 (.pointer (some (errAt es 2))),.iface 208 (.pointer (some (errAt es 3))),.iface 208 (.pointer (some (errAt es 4))),.iface 208 (.pointer (some (errAt es 5))),.iface 208 (.pointer (some (errAt es 6))),.iface 208 (.pointer (some (errAt es 7))),.iface 208 (.pointer (some (errAt es 8))),.iface 208 (.pointer (some (errAt es 9))),.iface 208 (.pointer (some (errAt es 10))),.iface 208 (.pointer (some (errAt es 11))),.iface 208 (.pointer (some (errAt es 12))),.iface 208 (.pointer (some (errAt es 13))),.iface 208 (.pointer (some (errAt es 14))),.iface 208 (.pointer (some (errAt es 15))),.iface 208 (.pointer (some (errAt es 16))),.iface 208 (.pointer (some (errAt es 17))),.iface 208 (.pointer (some (errAt es 18))),.iface 208 (.pointer (some (errAt es 19)))] (fun w_6 g7 k8 z9=>?_)
 refine nl (X_ret (RX.ret_cell (P:=Tryz.prog) (fn:=Tryz.f37) (N:=21) (R:=R_) (c:=0) (t:=93) (p:=⟨w.heap.size,0,none⟩) (v:=.agg #[.iface 208 (.pointer (some (errAt es 1))),.iface 208 (.pointer (some (errAt es 2))),.iface 208 (.pointer (some (errAt es 3))),.iface 208 (.pointer (some (errAt es 4))),.iface 208 (.pointer (some (errAt es 5))),.iface 208 (.pointer (some (errAt es 6))),.iface 208 (.pointer (some (errAt es 7))),.iface 208 (.pointer (some (errAt es 8))),.iface 208 (.pointer (some (errAt es 9))),.iface 208 (.pointer (some (errAt es 10))),.iface 208 (.pointer (some (errAt es 11))),.iface 208 (.pointer (some (errAt es 12))),.iface 208 (.pointer (some (errAt es 13))),.iface 208 (.pointer (some (errAt es 14))),.iface 208 (.pointer (some (errAt es 15))),.iface 208 (.pointer (some (errAt es 16))),.iface 208 (.pointer (some (errAt es 17))),.iface 208 (.pointer (some (errAt es 18))),.iface 208 (.pointer (some (errAt es 19)))]) rfl rfl (lB k8 0) (hR_ _ _ ?_)))
 exact⟨rfl,(bg b2 g7 (Nat.le_refl _))⟩
theorem num_err (es:List Addr)(n:Nat)(hn:0<n)(hn':n≤19)(w:World)(h:Errs w es):Rt 21 #[.iface 208 (.pointer (some (errAt es n)))] w (i6 (n:Int)):=by
 refine en Tryz.func21 rfl 18 [(0,.iface 208 (.pointer (some (errAt es n))))] (fun R_ hR_=>?_)
 refine sg (xe0 1 [(0,.iface 208 (.pointer (some (errAt es n))))] ?_)
 refine nl (sq (sg (xr0 2 [(6,bF)] [] ?_)))
 refine nl (cf (sk (sq (sg (xc 37 ent37 [] (list_any es _ (h.below (Below.refl _ _))) ?_)))))
 rintro e w1 ⟨rfl,b2⟩; refine⟨_,rfl,?_⟩
 refine xr0 1 [(7,.agg (errAgg es)),(8,i6 0)] [6] ?_
 refine nl (bk (X_loop (ι:=Nat) (fun i=>[(0,.iface 208 (.pointer (some (errAt es n)))),(7,.agg (errAgg es)),(8,i6 (i:Int))]) (fun i wl=>i<n∧Below w.heap.size w wl) (fun i=>n-i) 0 ⟨by omega,b2⟩ (by kernel_rfl) ?_))
 rintro i wl ⟨hi,HB⟩
 refine sq (X_region ?_)
 by_cases c3:(i:Int)<19
 ·refine xr1 1 [(9,.eq bT)] [(9,bT)] [] (dT c3) ?_
  refine nl (sq (ct (sk (sq (bk (sg (xr 4 [(11,.as (.iface 208 (.pointer (some (errAt es (i+1))))))] [(3,nv i),(4,.iface 208 (.pointer (some (errAt es (i+1)))))] [9] [RunsAs Tryz.prog [(7,.agg (errAgg es)),(8,i6 (i:Int))] (Go.Op.index 93 (Go.Operand.tmp 7) (Go.Operand.tmp 8)) 45 (.iface 208 (.pointer (some (errAt es (i+1))))) wl] ⟨runs_index rfl rfl (err_index es i (by omega) _),trivial⟩ ?_)))))))
  refine nl (sg (xr0 2 [(12,.iface 208 (.pointer (some (errAt es n)))),(13,.iface 208 (.pointer (some (errAt es (i+1)))))] [4] ?_))
  by_cases c4:n=i+1
  ·refine xr 1 [(14,.as bT)] [(14,bT)] [12,13] [RunsAs Tryz.prog [(12,.iface 208 (.pointer (some (errAt es n)))),(13,.iface 208 (.pointer (some (errAt es (i+1)))))] (Go.Op.binOp Go.BinOp.eql 45 (Go.Operand.tmp 12) (Go.Operand.tmp 13) 45) 4 bT wl] ⟨runs_bin rfl rfl rfl (by have h:=(h.below HB).eql (n:=n) (m:=i+1) (by omega) (by omega) (by omega) (by omega); rw[decide_eq_true c4]at h; exact h),trivial⟩ ?_
   refine nl (ct (sg (xe1 3 [(16,.eq (i6 ((i:Int)+1)))] [(2,i6 ((i:Int)+1))] (w6 ((i:Int)+1)) ?_)))
   refine nl (X_ret (rj [i6 ((i:Int)+1)] hR_ ?_))
   exact⟨ret_int (by omega),HB⟩
  refine xr 1 [(14,.as bF)] [(14,bF)] [12,13] [RunsAs Tryz.prog [(12,.iface 208 (.pointer (some (errAt es n)))),(13,.iface 208 (.pointer (some (errAt es (i+1)))))] (Go.Op.binOp Go.BinOp.eql 45 (Go.Operand.tmp 12) (Go.Operand.tmp 13) 45) 4 bF wl] ⟨runs_bin rfl rfl rfl (by have h:=(h.below HB).eql (n:=n) (m:=i+1) (by omega) (by omega) (by omega) (by omega); rw[decide_eq_false c4]at h; exact h),trivial⟩ ?_
  refine nl (cf (sk (rg (xr1 2 [(17,.eq (i6 ((i:Int)+1)))] [(8,i6 ((i:Int)+1))] [3,14] (w6 ((i:Int)+1)) ?_))))
  refine nl ?_
  refine⟨(i+1),by kernel_rfl,?_,?_⟩
  ·exact⟨by omega,HB⟩
  (try dsimp only); omega
 exfalso; omega
end Go.Proofs.YtlnnjfdonilgmaaGreatDoor
set_option linter.unusedVariables false
set_option linter.unusedSimpArgs false
set_option maxRecDepth 100000
namespace Go.Proofs.YtlnnjfdonilgmaaGreatDoor
open Go Go.RowKit Go.Proofs.YtlnnjfdonilgmaaGreatDoorW.PrintWords RX
theorem info3 :(Tryz.prog.info? 3).map (fun i=>(i.zero,i.size,i.bytes))=some (some (i6 0),1,8):=by kernel_rfl
theorem Kd_len {α:Type}{d:Kd α}{e n m base:Nat}{ok:Nat→Prop}{w:World}{A:Option Addr}{c:Nat}{xs:List α}(h:d.R e w base ok (.slice A n c) xs)(hn:n=m):d.R e w base ok (.slice A m c) xs:=hn▸h
theorem takeI {L:List Int}{i:Nat}(h:i<L.length):L.take i++[L.getD i 0]=L.take (i+1):=by
 rw[List.take_add_one,List.getElem?_eq_getElem h,List.getD_eq_getElem?_getD,List.getElem?_eq_getElem h]; rfl
noncomputable def plM (xs:List OpA) (b:Bool) (L:List Int):List Int:=L.map fun p=>(plE xs p b).1
set_option maxHeartbeats 1000000 in
theorem plist_any (d:Nat)(xs:List OpA)(A:Option Addr)(c:Nat)(L:List Int)(b:Bool)(w:World)(hd:DeltaC w d xs)(hb:badE xs=0)(hn:xs.length≤1100000)(hz:∀ i,i<xs.length→opSz (xs.getD i op0))(hC:(Kd.int .i64).C w A L.length L)(hl:L.length≤1000)(hT:Tabs w)(es:List Addr)(hE:ErrsM w es):
  Calls Tryz.prog 35 #[pw d 0,.slice A L.length c,.bool b] w fun e w'=>(∃ A' c',e=.returned (.tuple #[.slice A' L.length c',.nilIface])∧(∀ t,t<L.length→(plE xs (L.getD t 0) b).2=0)∧(Kd.int .i64).R 3 w' w.heap.size (OkFrom w.heap.size) (aL A' L c') (plM xs b L)∧Below w.heap.size w w')∨(∃ n i,0<n∧n≤19∧e=.returned (.tuple #[.slice none 0 0,errV es n])∧i<L.length∧(plE xs (L.getD i 0) b).2≠0∧Below w.heap.size w w'):=by
 refine en Tryz.func35 rfl 38 [(0,pw d 0),(1,aL A L c),(2,.bool b)] (fun R_ hR_=>?_)
 refine sg (xe0 2 [(0,pw d 0),(1,aL A L c),(2,.bool b)] ?_)
 refine nl (sg (xr0 2 [(14,i6 (L.length:Int))] [] ?_))
 refine XL_makeCap (Kd.int .i64) rfl rfl rfl 3 (i6 0) 8 (L.length:Int) (by kernel_rfl) Tryz.underlying38 info3 rfl (by decide) (by omega) (0:Int) rfl (by omega) (by omega) ?_
 intro A1 c2 w3 r4 c5 b6
 refine xr0 1 [(8,.slice A1 0 c2)] [14,15] ?_
 refine nl (sq (sg (xr0 3 [(16,aL A L c),(17,i6 (L.length:Int)),(18,i6 0)] [1] ?_)))
 refine nl (bk (X_loop (ι:=Nat×Option Addr×Nat×List Int) (fun⟨i,A3,c3,zs⟩=>[(0,pw d 0),(2,.bool b),(8,aL A3 zs c3),(16,aL A L c),(17,i6 (L.length:Int)),(18,i6 (i:Int))]) (fun⟨i,A3,c3,zs⟩ wl=>i≤L.length∧zs=plM xs b (L.take i)∧(∀ t,t<i→(plE xs (L.getD t 0) b).2=0)∧(Kd.int .i64).R 3 wl w.heap.size (OkFrom w.heap.size) (aL A3 zs c3) zs∧Below w.heap.size w wl) (fun⟨i,A3,c3,zs⟩=>L.length-i) (0,A1,c2,[]) ⟨by omega,rfl,fun t_ ht_=>by omega,r4,b6⟩ (by kernel_rfl) ?_))
 rintro⟨i,A3,c3,zs⟩ wl ⟨hi,he3,hok,hr3,HB⟩
 have hzl_:zs.length=i:=by rw[he3,plM,List.length_map,List.length_take]; omega
 refine sq (X_region ?_)
 by_cases c7:(i:Int)<(L.length:Int)
 ·refine xr1 1 [(19,.eq bT)] [(19,bT)] [] (dT c7) ?_
  refine nl (sq (ct (sk (sq (bk (sq (X_region ?_)))))))
  obtain⟨ad8,a9,c10⟩:=Kd.atI (Kd.C_below hC HB) (i:=(i:Int)) (by omega) (by omega)
  refine xr 3 [(20,.idx ad8),(21,.load (i6 (rd L (i:Int))))] [(10,i6 (rd L (i:Int)))] [19] [A=some ad8,(0:Int)≤(i:Int),(i:Int)<(L.length:Int),la 3 (ad8.add ((i:Int).toNat*1)) (i6 (rd L (i:Int))) wl] ⟨a9,(by omega),(by omega),loads1 rfl (elem_cell c10 0 _ rfl),trivial⟩ ?_
  refine nl (sg (xr0 3 [(23,pw d 0),(24,i6 (rd L (i:Int))),(25,.bool b)] [10] ?_))
  refine xc 50 ent50 [pw d 0,i6 (rd L (i:Int)),.bool b] (pplace_any d xs (rd L (i:Int)) b _ (hd.below HB) hb hn hz (hT.below HB) es ((hE.sub (by decide):ErrsO w es).below HB) ((hE.sub (by decide):ErrsOn [11,12] w es).below HB)) ?_
  rintro e w11 ⟨rfl,b12⟩; refine⟨_,rfl,?_⟩
  refine xr0 5 [(11,i6 ((plE xs (rd L (i:Int)) b).1)),(12,errV es ((plE xs (rd L (i:Int)) b).2))] [23,24,25,26] ?_
  refine nl (sq (sg (xr0 1 [(29,errV es ((plE xs (rd L (i:Int)) b).2))] [] ?_)))
  by_cases c13:(plE xs (rd L (i:Int)) b).2=0
  ·rw[show errV es ((plE xs (rd L (i:Int)) b).2)=.nilIface from by rw[c13]; rfl]
   refine xe0 1 [(0,pw d 0),(2,.bool b),(8,aL A3 zs c3),(11,i6 ((plE xs (rd L (i:Int)) b).1)),(12,.nilIface),(16,aL A L c),(17,i6 (L.length:Int)),(18,nv i),(30,bF)] ?_
   refine nl (cf (sk (rg (xw 3 [] [(32,aL A3 zs c3),(34,.slice (some ⟨w11.heap.size,0,none⟩) 1 1)] [8,11,12,30] (w11.alloc (.cells #[i6 ((plE xs (rd L (i:Int)) b).1)] 3)) [] trivial ?_))))
   obtain⟨w14,w18,b15,k16,z17⟩:=new_world w11 #[i6 ((plE xs (rd L (i:Int)) b).1)] 3
   rw[w18]
   rw[←w18]
   refine XL_append (Kd.int .i64) rfl rfl rfl w.heap.size 3 (i6 0) 8 Tryz.underlying38 info3 rfl (by decide) (by omega) zs ((plE xs (rd L (i:Int)) b).1) [i6 ((plE xs (rd L (i:Int)) b).1)] (fun _=>False) (by kernel_rfl) rfl (fun _ h=>h.elim) (Kd.R_below hr3 b12) ((bt HB b12)).size (by first|omega|(simp; omega)) ?_
   intro A19 c20 w21 r22 c23 g24 l25 a26
   have e27:(zs++[(plE xs (rd L (i:Int)) b).1])=(plM xs b (L.take (i+1))):=by rw[he3,←takeI (show i<L.length by omega)]; unfold plM; rw[List.map_append]; rfl
   rw[e27]at r22 ⊢
   refine xr0 1 [(8,aL A19 (plM xs b (L.take (i+1))) c20)] [32,34,35] ?_
   refine nl (rg (xr1 2 [(36,.eq (i6 ((i:Int)+1)))] [(18,i6 ((i:Int)+1))] [] (w6 ((i:Int)+1)) ?_))
   refine nl ?_
   have B28:Below w.heap.size w w21:=(bgo (bt HB b12) g24 l25 (Nat.le_refl _))
   refine⟨(i+1,A19,c20,(plM xs b (L.take (i+1)))),by kernel_rfl,?_,?_⟩
   ·exact⟨by omega,rfl,fun t_ ht_=>by by_cases e_:t_=i; (· rw[e_]; exact c13); (· exact hok t_ (by omega)),r22,B28⟩
   (try dsimp only); omega
  rw[errV_pos es ((plE xs (rd L (i:Int)) b).2) (Nat.pos_of_ne_zero c13)]
  refine xe0 1 [(0,pw d 0),(2,.bool b),(8,aL A3 zs c3),(11,i6 ((plE xs (rd L (i:Int)) b).1)),(12,.iface 208 (.pointer (some (errAt es ((plE xs (rd L (i:Int)) b).2))))),(16,aL A L c),(17,i6 (L.length:Int)),(18,nv i),(30,bT)] ?_
  refine nl (ct (sg (xe0 3 [(6,.slice none 0 0),(7,.iface 208 (.pointer (some (errAt es ((plE xs (rd L (i:Int)) b).2)))))] ?_)))
  refine nl (X_ret (rj [.slice none 0 0,.iface 208 (.pointer (some (errAt es ((plE xs (rd L (i:Int)) b).2))))] hR_ ?_))
  exact .inr ⟨_,i,Nat.pos_of_ne_zero c13,plE_le _ _ _,by rw[errV_pos es _ (Nat.pos_of_ne_zero c13)]; rfl,by omega,c13,(bt HB b12)⟩
 refine xr1 1 [(19,.eq bF)] [(19,bF)] [] (dF c7) ?_
 refine nl (sq (cf (X_exit (sg (xe0 3 [(6,aL A3 zs c3),(7,.nilIface)] ?_)))))
 refine nl (X_ret (rj [.slice A3 zs.length c3,.nilIface] hR_ ?_))
 have hxi:L.take i=L:=List.take_of_length_le (by omega)
 have hrz_:=Kd_len (m:=L.length) (hr3) (by omega)
 rw[hxi]at he3
 have hll_:zs.length=L.length:=by omega
 rw[he3]at hrz_
 exact .inl ⟨_,_,congrArg (fun n_=>Ending.returned (.tuple #[.slice A3 n_ c3,.nilIface])) hll_,fun t_ ht_=>hok t_ (by omega),Kd.R_low hrz_ (Nat.le_refl _),HB⟩
end Go.Proofs.YtlnnjfdonilgmaaGreatDoor
