/- Cells: what is checked, what is the same. Conditions: sizes, the tables of utf8, the errors' variables. -/
import Derived.Test.YtgphmfnkeolbcaaGreatDoorT5
import Derived.Test.YtgphmfnkeolbcaaGreatDoorR1
import Derived.Test.YtgphmfnkeolbcaaGreatDoorCls
set_option linter.unusedVariables false
set_option linter.unusedSimpArgs false
set_option maxRecDepth 100000
namespace Go.Proofs.YtgphmfnkeolbcaaGreatDoor
open Go Go.RowKit Go.Proofs.YtgphmfnkeolbcaaGreatDoorW.PrintWords RX
theorem ent92 :Ent Tryz.prog 92:=ent_of Tryz.func92 (by kernel_rfl) rfl
theorem ent94 :Ent Tryz.prog 94:=ent_of Tryz.func94 (by kernel_rfl) rfl
theorem ent73 :Ent Tryz.prog 73:=ent_of Tryz.func73 (by kernel_rfl) rfl
theorem ent30 :Ent Tryz.prog 30:=ent_of Tryz.func30 (by kernel_rfl) rfl
theorem ent29 :Ent Tryz.prog 29:=ent_of Tryz.func29 (by kernel_rfl) rfl
theorem width0 (r:Int):(U.widthP r:Int)=0↔¬U.vz r:=by
 unfold U.widthP
 split
 ·rename_i h
  have:=(U.enc_len r.toNat).1
  constructor
  ·intro h2; omega
  intro h2; exact absurd h h2
 rename_i h; exact⟨fun _=>h,fun _=>rfl⟩
theorem bytes0 (s:ByteArray):s=(⟨#[]⟩:ByteArray)↔s.size=0:=by
 constructor
 ·intro e; rw[e]; rfl
 intro e; exact U.bl_inj (List.length_eq_zero_iff.1 (by rw[U.bl_size]; exact e))
theorem ccheck9_any (c:CellA)(A:Option Addr)(k:Nat)(w:World)(hA:kAttr.C w A c.attrs.length c.attrs)(hz:B.cellSz c)(hT:Tabs w)(es:List Addr)(hE:ErrsO w es):Rt 92 #[.agg (c6A c (.slice A c.attrs.length k))] w (errV es (B.cErr c)):=by
 have hz1:=hz.1
 have hz2:=hz.2.1
 have hEA:ErrsA w es:=hE.sub (by decide)
 refine en Tryz.func92 rfl 56 [(0,.agg (c6A c (aL A c.attrs k)))] (fun R_ hR_=>?_)
 refine sg (xwe 1 [] [(1,pw w.heap.size 0)] (w.alloc (.cells (c6A c (aL A c.attrs k)) 51)) [] trivial ?_)
 obtain⟨w1,w5,hb2,k3,z4⟩:=new_world w (c6A c (aL A c.attrs k)) 51
 rw[w5]
 refine xr0 1 [] [] ?_
 refine nl (sq (bk (sg (xr1 2 [(8,.load (.int .i32 c.rune))] [(8,.int .i32 c.rune)] [] (lc 21 k3 0) ?_))))
 by_cases c6:c.rune=(-1)
 ·refine xr1 2 [(9,.eq bT)] [(6,bT)] [8] (bE c6) ?_
  refine nl (ct (sq (sg (xr1 2 [(11,.load (sT c.kind))] [(11,sT c.kind)] [6] (lc 9 k3 1) ?_))))
  by_cases c7:c.kind=(⟨#[]⟩:ByteArray)
  ·refine xr 7 [(12,.eq bT)] [(18,bT)] [11] [Value.bool (c.kind.toList==(⟨#[]⟩:ByteArray).toList)=bT] ⟨congrArg Value.bool (strEqT (c7)),trivial⟩ ?_
   refine nl (ct (sg (xe 2 [(19,.load (ev es 6))] [(2,ev es 6)] [la 35 (⟨4,0,none⟩) (ev es 6) w1] ⟨loads1 rfl ((hb2.cell (World.block_lt_of_cell? _ _ (hE.load 6 4 (by decide) (by decide) rfl))).trans (hE.load 6 4 (by decide) (by decide) rfl)),trivial⟩ ?_)))
   refine nl (X_ret (rj [ev es 6] hR_ ?_))
   have hce:B.cErr c=6:=by unfold B.cErr; rw[if_pos c6]; exact if_pos (by first|exact .inl (by assumption)|exact .inr (by omega))
   rw[hce]
   exact⟨rfl,hb2⟩
  refine xr 5 [(12,.eq bF),(15,.load (sT c.kind))] [(13,bF),(16,i6 (c.kind.size:Int))] [11] [Value.bool (c.kind.toList==(⟨#[]⟩:ByteArray).toList)=bF,_] ⟨congrArg Value.bool (strEqF (c7)),lc 9 k3 1,trivial⟩ ?_
  by_cases c8:(c.kind.size:Int)>64
  ·refine xe1 2 [(17,.eq bT)] [(1,pw w.heap.size 0),(18,bT)] (dT c8) ?_
   refine nl (ct (sg (xe 2 [(19,.load (ev es 6))] [(2,ev es 6)] [la 35 (⟨4,0,none⟩) (ev es 6) w1] ⟨loads1 rfl ((hb2.cell (World.block_lt_of_cell? _ _ (hE.load 6 4 (by decide) (by decide) rfl))).trans (hE.load 6 4 (by decide) (by decide) rfl)),trivial⟩ ?_)))
   refine nl (X_ret (rj [ev es 6] hR_ ?_))
   have hce:B.cErr c=6:=by unfold B.cErr; rw[if_pos c6]; exact if_pos (by first|exact .inl (by assumption)|exact .inr (by omega))
   rw[hce]
   exact⟨rfl,hb2⟩
  refine xe1 2 [(17,.eq bF)] [(1,pw w.heap.size 0),(18,bF)] (dF c8) ?_
  refine nl (cf (sk (sq (sg (xr1 2 [(22,.load (sT c.kind))] [(22,sT c.kind)] [18] (lc 9 k3 1) ?_)))))
  refine xc 145 ent145 [sT c.kind] (scheck_any c.kind _ (by omega) (hT.below hb2) es (hEA.below hb2)) ?_
  rintro e w9 ⟨rfl,b10⟩; refine⟨_,rfl,?_⟩
  refine xr0 5 [(4,errV es (if (uchk c.kind).2 then 0 else 1))] [22,23] ?_
  refine nl (sg (xr0 1 [(26,errV es (if (uchk c.kind).2 then 0 else 1))] [] ?_))
  by_cases c11:(if (uchk c.kind).2 then 0 else 1)=0
  ·rw[show errV es (if (uchk c.kind).2 then 0 else 1)=.nilIface from by rw[c11]; rfl]
   refine xr0 1 [(4,.nilIface),(27,bF)] [26] ?_
   refine nl (cf (sk (sg (xr 2 [(30,.load (.agg #[i6 c.vk,i6 c.vn,sT c.vt]))] [(30,.agg #[i6 c.vk,i6 c.vn,sT c.vt])] [4,27] [la 48 (⟨w.heap.size,2,none⟩) (.agg #[i6 c.vk,i6 c.vn,sT c.vt]) w9] ⟨loadsB rfl rfl (Blk.below k3 b10) 2 ⟨by kernel_rfl,by kernel_rfl⟩,trivial⟩ ?_))))
   refine xc 146 ent146 [.agg #[i6 c.vk,i6 c.vn,sT c.vt]] (vcheck_any c.vk c.vn c.vt _ (by omega) (hT.below (bt hb2 b10)) es (hEA.below (bt hb2 b10))) ?_
   rintro e w12 ⟨rfl,b13⟩; refine⟨_,rfl,?_⟩
   refine xe0 1 [(1,pw w.heap.size 0),(5,errV es (plainErr c.vk c.vn c.vt))] ?_
   refine nl (sg (xr0 1 [(32,errV es (plainErr c.vk c.vn c.vt))] [] ?_))
   by_cases c14:(plainErr c.vk c.vn c.vt)=0
   ·rw[show errV es (plainErr c.vk c.vn c.vt)=.nilIface from by rw[c14]; rfl]
    refine xr0 1 [(5,.nilIface),(33,bF)] [32] ?_
    refine nl (cf (sk (sg (xe1 2 [(54,.load (aL A c.attrs k))] [(54,aL A c.attrs k)] (lc 49 (Blk.below k3 (bt b10 b13)) 5) ?_))))
    refine xc 149 ent149 [.slice A c.attrs.length k,bF] (acheck_any _ _ c.attrs false _ (Kd.C_below hA (bt (bt hb2 b10) b13)) (fun i_ h_=>by have h2_:=hz.2.2.2 i_ h_; omega) (hT.below (bt (bt hb2 b10) b13)) es (hEA.below (bt (bt hb2 b10) b13))) ?_
    rintro e w15 ⟨rfl,b16⟩; refine⟨_,rfl,?_⟩
    refine xe0 1 [(2,errV es (chkA false c.attrs))] ?_
    refine nl (X_ret (rj [errV es (chkA false c.attrs)] hR_ ?_))
    have hu:(uchk c.kind).2=true:=by cases hu_:(uchk c.kind).2 with|true=>rfl|false=>rw[hu_]at c11; cases c11
    have hce:B.cErr c=chkA false c.attrs:=by unfold B.cErr; rw[if_pos c6]; rw[if_neg (fun h_=>by rcases h_ with h_|h_; (· exact absurd h_ (by assumption)); (· omega))]; rw[if_neg (by rw[hu]; decide)]; exact if_neg (fun h_=>h_ c14)
    rw[hce]
    exact⟨rfl,(bt (bt (bt hb2 b10) b13) b16)⟩
   rw[errV_pos es (plainErr c.vk c.vn c.vt) (Nat.pos_of_ne_zero c14)]
   refine xr0 1 [(5,.iface 301 (.pointer (some (errAt es (plainErr c.vk c.vn c.vt))))),(33,bT)] [32] ?_
   refine nl (ct (sg (xe0 2 [(2,.iface 301 (.pointer (some (errAt es (plainErr c.vk c.vn c.vt)))))] ?_)))
   refine nl (X_ret (rj [.iface 301 (.pointer (some (errAt es (plainErr c.vk c.vn c.vt))))] hR_ ?_))
   have hu:(uchk c.kind).2=true:=by cases hu_:(uchk c.kind).2 with|true=>rfl|false=>rw[hu_]at c11; cases c11
   have hce:B.cErr c=plainErr c.vk c.vn c.vt:=by unfold B.cErr; rw[if_pos c6]; rw[if_neg (fun h_=>by rcases h_ with h_|h_; (· exact absurd h_ (by assumption)); (· omega))]; rw[if_neg (by rw[hu]; decide)]; exact if_pos c14
   rw[hce,errV_pos es _ (Nat.pos_of_ne_zero c14)]
   exact⟨rfl,(bt (bt hb2 b10) b13)⟩
  rw[errV_pos es (if (uchk c.kind).2 then 0 else 1) (Nat.pos_of_ne_zero c11)]
  refine xr0 1 [(4,.iface 301 (.pointer (some (errAt es (if (uchk c.kind).2 then 0 else 1))))),(27,bT)] [26] ?_
  refine nl (ct (sg (xe0 2 [(2,.iface 301 (.pointer (some (errAt es (if (uchk c.kind).2 then 0 else 1)))))] ?_)))
  refine nl (X_ret (rj [.iface 301 (.pointer (some (errAt es (if (uchk c.kind).2 then 0 else 1))))] hR_ ?_))
  have hu:(uchk c.kind).2=false:=by cases hu_:(uchk c.kind).2 with|false=>rfl|true=>exact absurd (by rw[hu_]; rfl) c11
  have hce:B.cErr c=1:=by unfold B.cErr; rw[if_pos c6]; rw[if_neg (fun h_=>by rcases h_ with h_|h_; (· exact absurd h_ (by assumption)); (· omega))]; exact if_pos hu
  rw[hce,hu]
  exact⟨rfl,(bt hb2 b10)⟩
 refine xr1 2 [(9,.eq bF)] [(6,bF)] [8] (bN c6) ?_
 refine nl (cf (sg (xr1 2 [(37,.load (.int .i32 c.rune))] [(37,.int .i32 c.rune)] [6] (lc 21 k3 0) ?_)))
 refine xc 147 ent147 [.int .i32 c.rune] (width_any c.rune _) ?_
 rintro e w17 ⟨rfl,b18⟩; refine⟨_,rfl,?_⟩
 by_cases c19:(U.widthP c.rune:Int)=0
 ·refine xr1 14 [(39,.eq bT)] [(35,bT)] [37,38] (bE c19) ?_
  refine nl (ct (sg (xe 2 [(52,.load (ev es 5))] [(2,ev es 5)] [la 35 (⟨5,0,none⟩) (ev es 5) w17] ⟨loads1 rfl (((bt hb2 b18).cell (World.block_lt_of_cell? _ _ (hE.load 5 5 (by decide) (by decide) rfl))).trans (hE.load 5 5 (by decide) (by decide) rfl)),trivial⟩ ?_)))
  refine nl (X_ret (rj [ev es 5] hR_ ?_))
  have hce:B.cErr c=5:=by unfold B.cErr; rw[if_neg c6]; exact if_pos (by first|exact .inl ((width0 _).1 (by assumption))|exact .inr (.inl (by assumption))|exact .inr (.inr (of_decide_eq_false (Bool.eq_false_iff.2 (by assumption)))))
  rw[hce]
  exact⟨rfl,(bt hb2 b18)⟩
 refine xr 4 [(39,.eq bF),(42,.load (sT c.kind))] [(40,bF),(42,sT c.kind)] [37,38] [_,_] ⟨bN c19,lc 9 (Blk.below k3 b18) 1,trivial⟩ ?_
 by_cases c20:c.kind=(⟨#[]⟩:ByteArray)
 ·refine xe 6 [(43,.eq bF),(47,.load (.agg #[i6 c.vk,i6 c.vn,sT c.vt]))] [(1,pw w.heap.size 0),(45,bF),(47,.agg #[i6 c.vk,i6 c.vn,sT c.vt]),(48,.agg #[i6 0,i6 0,s0])] [Value.bool (!c.kind.toList==(⟨#[]⟩:ByteArray).toList)=bF,la 48 (⟨w.heap.size,2,none⟩) (.agg #[i6 c.vk,i6 c.vn,sT c.vt]) w17] ⟨congrArg Value.bool (strNeF (c20)),loadsB rfl rfl (Blk.below k3 b18) 2 ⟨by kernel_rfl,by kernel_rfl⟩,trivial⟩ ?_
  refine xc 148 ent148 [.agg #[i6 c.vk,i6 c.vn,sT c.vt],.agg #[i6 0,i6 0,s0]] (vsame_any (c.vk,c.vn,c.vt) pl0 _) ?_
  rintro e w21 ⟨rfl,b22⟩; refine⟨_,rfl,?_⟩
  by_cases c23:decide ((c.vk,c.vn,c.vt)=pl0)=true
  ·rw[show (decide ((c.vk,c.vn,c.vt)=pl0):Bool)=true from by simpa using c23]
   refine xr0 3 [(35,bF)] [45,47,48,49] ?_
   refine nl (cf (sk (sg (xe1 2 [(54,.load (aL A c.attrs k))] [(54,aL A c.attrs k)] (lc 49 (Blk.below k3 (bt b18 b22)) 5) ?_))))
   refine xc 149 ent149 [.slice A c.attrs.length k,bF] (acheck_any _ _ c.attrs false _ (Kd.C_below hA (bt (bt hb2 b18) b22)) (fun i_ h_=>by have h2_:=hz.2.2.2 i_ h_; omega) (hT.below (bt (bt hb2 b18) b22)) es (hEA.below (bt (bt hb2 b18) b22))) ?_
   rintro e w24 ⟨rfl,b25⟩; refine⟨_,rfl,?_⟩
   refine xe0 1 [(2,errV es (chkA false c.attrs))] ?_
   refine nl (X_ret (rj [errV es (chkA false c.attrs)] hR_ ?_))
   have hce:B.cErr c=chkA false c.attrs:=by unfold B.cErr; rw[if_neg c6]; exact if_neg (fun h_=>by rcases h_ with h_|h_|h_; (· exact absurd ((width0 _).2 h_) (by assumption)); (· exact absurd (by assumption) h_); (· exact absurd (of_decide_eq_true (by assumption)) h_))
   rw[hce]
   exact⟨rfl,(bt (bt (bt hb2 b18) b22) b25)⟩
  rw[show (decide ((c.vk,c.vn,c.vt)=pl0):Bool)=false from by simpa using c23]
  refine xr0 3 [(35,bT)] [45,47,48,49] ?_
  refine nl (ct (sg (xe 2 [(52,.load (ev es 5))] [(2,ev es 5)] [la 35 (⟨5,0,none⟩) (ev es 5) w21] ⟨loads1 rfl (((bt (bt hb2 b18) b22).cell (World.block_lt_of_cell? _ _ (hE.load 5 5 (by decide) (by decide) rfl))).trans (hE.load 5 5 (by decide) (by decide) rfl)),trivial⟩ ?_)))
  refine nl (X_ret (rj [ev es 5] hR_ ?_))
  have hce:B.cErr c=5:=by unfold B.cErr; rw[if_neg c6]; exact if_pos (by first|exact .inl ((width0 _).1 (by assumption))|exact .inr (.inl (by assumption))|exact .inr (.inr (of_decide_eq_false (Bool.eq_false_iff.2 (by assumption)))))
  rw[hce]
  exact⟨rfl,(bt (bt hb2 b18) b22)⟩
 refine xe 10 [(43,.eq bT)] [(1,pw w.heap.size 0),(35,bT)] [Value.bool (!c.kind.toList==(⟨#[]⟩:ByteArray).toList)=bT] ⟨congrArg Value.bool (strNeT (c20)),trivial⟩ ?_
 refine nl (ct (sg (xe 2 [(52,.load (ev es 5))] [(2,ev es 5)] [la 35 (⟨5,0,none⟩) (ev es 5) w17] ⟨loads1 rfl (((bt hb2 b18).cell (World.block_lt_of_cell? _ _ (hE.load 5 5 (by decide) (by decide) rfl))).trans (hE.load 5 5 (by decide) (by decide) rfl)),trivial⟩ ?_)))
 refine nl (X_ret (rj [ev es 5] hR_ ?_))
 have hce:B.cErr c=5:=by unfold B.cErr; rw[if_neg c6]; exact if_pos (by first|exact .inl ((width0 _).1 (by assumption))|exact .inr (.inl (by assumption))|exact .inr (.inr (of_decide_eq_false (Bool.eq_false_iff.2 (by assumption)))))
 rw[hce]
 exact⟨rfl,(bt hb2 b18)⟩
theorem r9check_any (c:CellA)(A:Option Addr)(k:Nat)(w:World)(hA:kAttr.C w A c.attrs.length c.attrs)(hz:B.cellSz c)(hT:Tabs w):Rt 94 #[.agg (c6A c (.slice A c.attrs.length k))] w (i6 (B.cErr c:Int)):=by
 have hz1:=hz.1
 have hz2:=hz.2.1
 have hke:=bytes0 c.kind
 have hvz:U.vz c.rune↔0≤c.rune∧(c.rune.toNat<55296∨(57344≤c.rune.toNat∧c.rune.toNat≤1114111)):=Iff.rfl
 refine en Tryz.func94 rfl 80 [(0,.agg (c6A c (aL A c.attrs k)))] (fun R_ hR_=>?_)
 refine sg (xwe 1 [] [(1,pw w.heap.size 0)] (w.alloc (.cells (c6A c (aL A c.attrs k)) 51)) [] trivial ?_)
 obtain⟨w1,w5,hb2,k3,z4⟩:=new_world w (c6A c (aL A c.attrs k)) 51
 rw[w5]
 refine xr0 1 [] [] ?_
 refine nl (X_join (ι:=Bool) (fun b3=>[(1,pw w.heap.size 0),(3,.bool b3)]) (fun b3 wj=>b3=decide (U.vz c.rune)∧RX.Blk wj w.heap.size 51 (c6A c (aL A c.attrs k))∧Below w.heap.size w wj) ?_ ?_)
 ·refine rg (xr1 2 [(6,.load (.int .i32 c.rune))] [(6,.int .i32 c.rune)] [] (lc 21 k3 0) ?_)
  by_cases c6:c.rune≥0
  ·refine xr 4 [(7,.eq bT),(10,.load (.int .i32 c.rune))] [(8,bT),(10,.int .i32 c.rune)] [6] [_,_] ⟨dT c6,lc 21 k3 0,trivial⟩ ?_
   by_cases c7:c.rune≤1114111
   ·refine xr 5 [(11,.eq bT),(15,.load (.int .i32 c.rune))] [(13,bT),(15,.int .i32 c.rune)] [8,10] [_,_] ⟨dT c7,lc 21 k3 0,trivial⟩ ?_
    by_cases c8:c.rune<55296
    ·refine xr1 8 [(16,.eq bT)] [(3,bT)] [13,15] (dT c8) ?_
     refine nl ?_
     exact⟨true,by kernel_rfl,⟨(decide_eq_true (by rw[hvz]; omega)).symm,k3,hb2⟩⟩
    refine xr 4 [(16,.eq bF),(19,.load (.int .i32 c.rune))] [(17,bF),(19,.int .i32 c.rune)] [15] [_,_] ⟨dF c8,lc 21 k3 0,trivial⟩ ?_
    by_cases c9:c.rune>57343
    ·refine xe1 4 [(20,.eq bT)] [(1,pw w.heap.size 0),(3,bT)] (dT c9) ?_
     refine nl ?_
     exact⟨true,by kernel_rfl,⟨(decide_eq_true (by rw[hvz]; omega)).symm,k3,hb2⟩⟩
    refine xe1 4 [(20,.eq bF)] [(1,pw w.heap.size 0),(3,bF)] (dF c9) ?_
    refine nl ?_
    exact⟨false,by kernel_rfl,⟨(decide_eq_false (by rw[hvz]; omega)).symm,k3,hb2⟩⟩
   refine xr1 13 [(11,.eq bF)] [(3,bF)] [8,10] (dF c7) ?_
   refine nl ?_
   exact⟨false,by kernel_rfl,⟨(decide_eq_false (by rw[hvz]; omega)).symm,k3,hb2⟩⟩
  refine xr1 17 [(7,.eq bF)] [(3,bF)] [6] (dF c6) ?_
  refine nl ?_
  exact⟨false,by kernel_rfl,⟨(decide_eq_false (by rw[hvz]; omega)).symm,k3,hb2⟩⟩
 rintro b3 wj ⟨hb3,hkj,HBj⟩
 refine sq (bk (sg (xr0 1 [(24,.bool b3)] [] ?_)))
 by_cases c10:b3=true
 ·have hv4:0≤c.rune∧(c.rune.toNat<55296∨(57344≤c.rune.toNat∧c.rune.toNat≤1114111)):=hvz.1 (of_decide_eq_true (hb3.symm.trans c10))
  rw[show (b3:Bool)=true from by simpa using c10]
  refine xr1 11 [(35,.load (sT c.kind))] [(3,bT),(31,bF),(33,bT),(35,sT c.kind)] [24] (lc 9 hkj 1) ?_
  by_cases c11:c.kind=(⟨#[]⟩:ByteArray)
  ·refine xr 5 [(36,.eq bF),(39,.load (.agg #[i6 c.vk,i6 c.vn,sT c.vt]))] [(37,bF),(39,.agg #[i6 c.vk,i6 c.vn,sT c.vt]),(40,.agg #[i6 0,i6 0,s0])] [35] [Value.bool (!c.kind.toList==(⟨#[]⟩:ByteArray).toList)=bF,la 48 (⟨w.heap.size,2,none⟩) (.agg #[i6 c.vk,i6 c.vn,sT c.vt]) wj] ⟨congrArg Value.bool (strNeF (c11)),loadsB rfl rfl hkj 2 ⟨by kernel_rfl,by kernel_rfl⟩,trivial⟩ ?_
   by_cases c12:(c.vk,c.vn,c.vt)=pl0
   ·refine xr 5 [(41,.as bF)] [(23,bF)] [31,33,37,39,40] [RunsAs Tryz.prog [(39,.agg #[i6 c.vk,i6 c.vn,sT c.vt]),(40,.agg #[i6 0,i6 0,s0])] (Go.Op.binOp Go.BinOp.neq 48 (Go.Operand.tmp 39) (Go.Operand.tmp 40) 48) 4 bF wj] ⟨runs_bin rfl rfl (run_eqGuard_agg _ _ _ _ _ _ _ (by kernel_rfl)) (by have h:=plain_neq (c.vk,c.vn,c.vt) pl0 wj; rw[show ple (c.vk,c.vn,c.vt) pl0=true from(ple_iff _ _).2 c12]at h; exact h),trivial⟩ ?_
    refine nl (cf (sg (xr0 15 [(45,bF)] [23] ?_)))
    refine nl (cf (sg (xe0 9 [(1,pw w.heap.size 0),(3,bT),(60,bF)] ?_)))
    refine nl (cf (sk (sq (sg (xr0 2 [(70,bF)] [3,60] ?_)))))
    refine nl (cf (sk (sg (xe1 2 [(78,.load (aL A c.attrs k))] [(78,aL A c.attrs k)] (lc 49 hkj 5) ?_))))
    refine xc 156 ent156 [.slice A c.attrs.length k,bF] (r3check_any _ _ c.attrs false _ (Kd.C_below hA HBj) hz.2.2.2 (hT.below HBj)) ?_
    rintro e w13 ⟨rfl,b14⟩; refine⟨_,rfl,?_⟩
    refine xe0 1 [(2,i6 (chkA false c.attrs:Int))] ?_
    refine nl (X_ret (rj [i6 (chkA false c.attrs:Int)] hR_ ?_))
    have hce:B.cErr c=chkA false c.attrs:=by unfold B.cErr; rw[if_neg (by omega)]; exact if_neg (fun h_=>by rcases h_ with h_|h_|h_; (· exact h_ (hvz.2 (by omega))); (· exact absurd (by assumption) h_); (· exact absurd (by assumption) h_))
    rw[hce]
    exact⟨rfl,(bt HBj b14)⟩
   refine xr 5 [(41,.as bT)] [(23,bT)] [31,33,37,39,40] [RunsAs Tryz.prog [(39,.agg #[i6 c.vk,i6 c.vn,sT c.vt]),(40,.agg #[i6 0,i6 0,s0])] (Go.Op.binOp Go.BinOp.neq 48 (Go.Operand.tmp 39) (Go.Operand.tmp 40) 48) 4 bT wj] ⟨runs_bin rfl rfl (run_eqGuard_agg _ _ _ _ _ _ _ (by kernel_rfl)) (by have h:=plain_neq (c.vk,c.vn,c.vt) pl0 wj; rw[show ple (c.vk,c.vn,c.vt) pl0=false from Bool.eq_false_iff.2 (fun k=>c12 ((ple_iff _ _).1 k))]at h; exact h),trivial⟩ ?_
   refine nl (ct (sg (xe0 1 [(2,i6 5)] ?_)))
   refine nl (X_ret (rj [i6 5] hR_ ?_))
   have hce:B.cErr c=5:=by unfold B.cErr; rw[if_neg (by omega)]; exact if_pos (by first|exact .inl (by rw[hvz]; omega)|exact .inr (.inl (by assumption))|exact .inr (.inr (by assumption)))
   rw[hce]
   exact⟨rfl,HBj⟩
  refine xr 10 [(36,.eq bT)] [(23,bT)] [31,33,35] [Value.bool (!c.kind.toList==(⟨#[]⟩:ByteArray).toList)=bT] ⟨congrArg Value.bool (strNeT (c11)),trivial⟩ ?_
  refine nl (ct (sg (xe0 1 [(2,i6 5)] ?_)))
  refine nl (X_ret (rj [i6 5] hR_ ?_))
  have hce:B.cErr c=5:=by unfold B.cErr; rw[if_neg (by omega)]; exact if_pos (by first|exact .inl (by rw[hvz]; omega)|exact .inr (.inl (by assumption))|exact .inr (.inr (by assumption)))
  rw[hce]
  exact⟨rfl,HBj⟩
 have hv4:¬(0≤c.rune∧(c.rune.toNat<55296∨(57344≤c.rune.toNat∧c.rune.toNat≤1114111))):=fun h_=>c10 (hb3.trans (decide_eq_true (hvz.2 h_)))
 rw[show (b3:Bool)=false from by simpa using c10]
 refine xr1 4 [(28,.load (.int .i32 c.rune))] [(3,bF),(26,bT),(28,.int .i32 c.rune)] [24] (lc 21 hkj 0) ?_
 by_cases c15:c.rune=(-1)
 ·refine xr1 17 [(29,.eq bF)] [(23,bF)] [26,28] (nF c15) ?_
  refine nl (cf (sg (xr1 6 [(50,.load (sT c.kind))] [(48,bT),(51,i6 (c.kind.size:Int))] [23] (lc 9 hkj 1) ?_)))
  by_cases c16:(c.kind.size:Int)<1
  ·refine xr1 9 [(52,.eq bT)] [(45,bT)] [48,51] (dT c16) ?_
   refine nl (ct (sg (xe0 1 [(2,i6 6)] ?_)))
   refine nl (X_ret (rj [i6 6] hR_ ?_))
   have hce:B.cErr c=6:=by unfold B.cErr; rw[if_pos c15]; exact if_pos (by rw[hke]; omega)
   rw[hce]
   exact⟨rfl,HBj⟩
  refine xr 5 [(52,.eq bF),(55,.load (sT c.kind))] [(53,bF),(56,i6 (c.kind.size:Int))] [51] [_,_] ⟨dF c16,lc 9 hkj 1,trivial⟩ ?_
  by_cases c17:(c.kind.size:Int)>64
  ·refine xe1 4 [(57,.eq bT)] [(1,pw w.heap.size 0),(3,bF),(45,bT)] (dT c17) ?_
   refine nl (ct (sg (xe0 1 [(2,i6 6)] ?_)))
   refine nl (X_ret (rj [i6 6] hR_ ?_))
   have hce:B.cErr c=6:=by unfold B.cErr; rw[if_pos c15]; exact if_pos (by rw[hke]; omega)
   rw[hce]
   exact⟨rfl,HBj⟩
  refine xe1 4 [(57,.eq bF)] [(1,pw w.heap.size 0),(3,bF),(45,bF)] (dF c17) ?_
  refine nl (cf (sg (xr1 5 [(65,.load (sT c.kind))] [(63,bT),(65,sT c.kind)] [45] (lc 9 hkj 1) ?_)))
  refine xc 154 ent154 [sT c.kind] (Tryz.utf8_ValidString c.kind _ (by omega) (hT.below HBj)) ?_
  rintro e w18 ⟨rfl,b19⟩; refine⟨_,rfl,?_⟩
  rw[valid_uchk]
  by_cases c20:(uchk c.kind).2=true
  ·rw[show ((uchk c.kind).2:Bool)=true from by simpa using c20]
   refine xr0 3 [(60,bF)] [63,65,66] ?_
   refine nl (cf (sk (sq (sg (xr0 2 [(70,bT)] [3,60] ?_)))))
   refine nl (ct (sg (xr 2 [(72,.load (.agg #[i6 c.vk,i6 c.vn,sT c.vt]))] [(72,.agg #[i6 c.vk,i6 c.vn,sT c.vt])] [70] [la 48 (⟨w.heap.size,2,none⟩) (.agg #[i6 c.vk,i6 c.vn,sT c.vt]) w18] ⟨loadsB rfl rfl (Blk.below hkj b19) 2 ⟨by kernel_rfl,by kernel_rfl⟩,trivial⟩ ?_)))
   refine xc 155 ent155 [.agg #[i6 c.vk,i6 c.vn,sT c.vt]] (r2check_any c.vk c.vn c.vt _ (by omega)) ?_
   rintro e w21 ⟨rfl,b22⟩; refine⟨_,rfl,?_⟩
   refine xr0 1 [(4,i6 (plainErr c.vk c.vn c.vt:Int))] [72,73] ?_
   refine nl (sg (xe0 1 [(1,pw w.heap.size 0),(4,i6 (plainErr c.vk c.vn c.vt:Int)),(74,i6 (plainErr c.vk c.vn c.vt:Int))] ?_))
   by_cases c23:(plainErr c.vk c.vn c.vt:Int)=0
   ·refine xr1 1 [(75,.eq bF)] [(75,bF)] [74] (nF c23) ?_
    refine nl (cf (sk (sg (xe1 2 [(78,.load (aL A c.attrs k))] [(78,aL A c.attrs k)] (lc 49 (Blk.below hkj (bt b19 b22)) 5) ?_))))
    refine xc 156 ent156 [.slice A c.attrs.length k,bF] (r3check_any _ _ c.attrs false _ (Kd.C_below hA (bt (bt HBj b19) b22)) hz.2.2.2 (hT.below (bt (bt HBj b19) b22))) ?_
    rintro e w24 ⟨rfl,b25⟩; refine⟨_,rfl,?_⟩
    refine xe0 1 [(2,i6 (chkA false c.attrs:Int))] ?_
    refine nl (X_ret (rj [i6 (chkA false c.attrs:Int)] hR_ ?_))
    have hu:(uchk c.kind).2=true:=c20
    have hce:B.cErr c=chkA false c.attrs:=by unfold B.cErr; rw[if_pos c15]; rw[if_neg (by rw[hke]; omega)]; rw[if_neg (by rw[hu]; decide)]; exact if_neg (by omega)
    rw[hce]
    exact⟨rfl,(bt (bt (bt HBj b19) b22) b25)⟩
   refine xr1 1 [(75,.eq bT)] [(75,bT)] [74] (nT c23) ?_
   refine nl (ct (sg (xe0 2 [(2,i6 (plainErr c.vk c.vn c.vt:Int))] ?_)))
   refine nl (X_ret (rj [i6 (plainErr c.vk c.vn c.vt:Int)] hR_ ?_))
   have hu:(uchk c.kind).2=true:=c20
   have hce:B.cErr c=plainErr c.vk c.vn c.vt:=by unfold B.cErr; rw[if_pos c15]; rw[if_neg (by rw[hke]; omega)]; rw[if_neg (by rw[hu]; decide)]; exact if_pos (by omega)
   rw[hce]
   exact⟨rfl,(bt (bt HBj b19) b22)⟩
  rw[show ((uchk c.kind).2:Bool)=false from by simpa using c20]
  refine xr0 3 [(60,bT)] [63,65,66] ?_
  refine nl (ct (sg (xe0 1 [(2,i6 1)] ?_)))
  refine nl (X_ret (rj [i6 1] hR_ ?_))
  have hu:(uchk c.kind).2=false:=Bool.eq_false_iff.2 c20
  have hce:B.cErr c=1:=by unfold B.cErr; rw[if_pos c15]; rw[if_neg (by rw[hke]; omega)]; exact if_pos hu
  rw[hce]
  exact⟨rfl,(bt HBj b19)⟩
 refine xr1 17 [(29,.eq bT)] [(23,bT)] [26,28] (nT c15) ?_
 refine nl (ct (sg (xe0 1 [(2,i6 5)] ?_)))
 refine nl (X_ret (rj [i6 5] hR_ ?_))
 have hce:B.cErr c=5:=by unfold B.cErr; rw[if_neg (by omega)]; exact if_pos (by first|exact .inl (by rw[hvz]; omega)|exact .inr (.inl (by assumption))|exact .inr (.inr (by assumption)))
 rw[hce]
 exact⟨rfl,HBj⟩
def cLike (a b:CellA):Bool:=decide (a.rune=b.rune)&&(decide (a.kind=b.kind)&&decide (((a.vk,a.vn,a.vt):Pl)=(b.vk,b.vn,b.vt)))
def cEqP (a b:CellA):Bool:=cLike a b&&decide (a.attrs=b.attrs)
theorem cEqP_iff (a b:CellA):cEqP a b=true↔a=b:=by
 obtain⟨a1,a2,a3,a4,a5,a6⟩:=a
 obtain⟨b1,b2,b3,b4,b5,b6⟩:=b
 simp only[cEqP,cLike,Bool.and_eq_true,decide_eq_true_eq,Prod.mk.injEq,CellA.mk.injEq]
 exact⟨fun⟨⟨h1,h2,h3,h4,h5⟩,h6⟩=>⟨h1,h2,h3,h4,h5,h6⟩,fun⟨h1,h2,h3,h4,h5,h6⟩=>⟨⟨h1,h2,h3,h4,h5⟩,h6⟩⟩
noncomputable def csEqP (xs ys:List CellA):Bool:=@decide (xs=ys) (Classical.propDecidable _)
theorem csEqP_iff (xs ys:List CellA):csEqP xs ys=true↔xs=ys:=by unfold csEqP; exact @decide_eq_true_iff _ (Classical.propDecidable _)
theorem csEqP_false (xs ys:List CellA):csEqP xs ys=false↔¬xs=ys:=by rw[←csEqP_iff]; cases csEqP xs ys<;>simp
theorem cells_ext {xs ys:List CellA}(hl:xs.length=ys.length)(h:∀ q,q<xs.length→xs.getD q cell0=ys.getD q cell0):xs=ys:=
 List.ext_getElem hl fun q h1 h2=>by have:=h q h1; simpa [List.getD_eq_getElem?_getD,List.getElem?_eq_getElem h1,List.getElem?_eq_getElem h2] using this
theorem r9like_any (a b:CellA)(A D:Option Addr)(k d:Nat)(w:World)(hA:kAttr.C w A a.attrs.length a.attrs)(hB:kAttr.C w D b.attrs.length b.attrs):Rt 73 #[.agg (c6A a (.slice A a.attrs.length k)),.agg (c6A b (.slice D b.attrs.length d))] w (.bool (cLike a b)):=by
 refine en Tryz.func73 rfl 24 [(0,.agg (c6A a (aL A a.attrs k))),(1,.agg (c6A b (aL D b.attrs d)))] (fun R_ hR_=>?_)
 refine sg (xwe 1 [] [(1,.agg (c6A b (aL D b.attrs d))),(2,pw w.heap.size 0)] (w.alloc (.cells (c6A a (aL A a.attrs k)) 51)) [] trivial ?_)
 obtain⟨w1,w5,hb2,k3,z4⟩:=new_world w (c6A a (aL A a.attrs k)) 51
 rw[w5]
 refine xw 1 [] [(3,pw w1.heap.size 0)] [1] (w1.alloc (.cells (c6A b (aL D b.attrs d)) 51)) [] trivial ?_
 obtain⟨w_6,w10,b7,k8,z9⟩:=new_world w1 (c6A b (aL D b.attrs d)) 51
 rw[w10]
 refine xr0 1 [] [] ?_
 refine nl (sg (xr 4 [(6,.load (.int .i32 a.rune)),(8,.load (.int .i32 b.rune))] [(6,.int .i32 a.rune),(8,.int .i32 b.rune)] [] [_,_] ⟨lc 21 (Blk.below k3 b7) 0,lc 21 k8 0,trivial⟩ ?_))
 by_cases c11:a.rune=b.rune
 ·refine xr 6 [(9,.eq bT),(12,.load (sT a.kind)),(14,.load (sT b.kind))] [(10,bT),(12,sT a.kind),(14,sT b.kind)] [6,8] [_,_,_] ⟨bE c11,lc 9 (Blk.below k3 b7) 1,lc 9 k8 1,trivial⟩ ?_
  by_cases c12:a.kind=b.kind
  ·refine xe 7 [(15,.eq bT),(19,.load (.agg #[i6 a.vk,i6 a.vn,sT a.vt])),(21,.load (.agg #[i6 b.vk,i6 b.vn,sT b.vt]))] [(17,bT),(19,.agg #[i6 a.vk,i6 a.vn,sT a.vt]),(21,.agg #[i6 b.vk,i6 b.vn,sT b.vt])] [Value.bool (a.kind.toList==b.kind.toList)=bT,la 48 (⟨w.heap.size,2,none⟩) (.agg #[i6 a.vk,i6 a.vn,sT a.vt]) w_6,la 48 (⟨w1.heap.size,2,none⟩) (.agg #[i6 b.vk,i6 b.vn,sT b.vt]) w_6] ⟨congrArg Value.bool (strEqT (c12)),loadsB rfl rfl (Blk.below k3 b7) 2 ⟨by kernel_rfl,by kernel_rfl⟩,loadsB rfl rfl k8 2 ⟨by kernel_rfl,by kernel_rfl⟩,trivial⟩ ?_
   by_cases c13:(a.vk,a.vn,a.vt)=(b.vk,b.vn,b.vt)
   ·refine xe 3 [(22,.as bT)] [(4,bT)] [RunsAs Tryz.prog [(19,.agg #[i6 a.vk,i6 a.vn,sT a.vt]),(21,.agg #[i6 b.vk,i6 b.vn,sT b.vt])] (Go.Op.binOp Go.BinOp.eql 48 (Go.Operand.tmp 19) (Go.Operand.tmp 21) 48) 4 bT w_6] ⟨runs_bin rfl rfl (run_eqGuard_agg _ _ _ _ _ _ _ (by kernel_rfl)) (by have h:=plain_eqb (a.vk,a.vn,a.vt) (b.vk,b.vn,b.vt) w_6; rw[show ple (a.vk,a.vn,a.vt) (b.vk,b.vn,b.vt)=true from(ple_iff _ _).2 c13]at h; exact h),trivial⟩ ?_
    refine nl (X_ret (rj [bT] hR_ ?_))
    rw[show cLike a b=true from by unfold cLike; simp_all]
    exact⟨rfl,(bt hb2 b7)⟩
   refine xe 3 [(22,.as bF)] [(4,bF)] [RunsAs Tryz.prog [(19,.agg #[i6 a.vk,i6 a.vn,sT a.vt]),(21,.agg #[i6 b.vk,i6 b.vn,sT b.vt])] (Go.Op.binOp Go.BinOp.eql 48 (Go.Operand.tmp 19) (Go.Operand.tmp 21) 48) 4 bF w_6] ⟨runs_bin rfl rfl (run_eqGuard_agg _ _ _ _ _ _ _ (by kernel_rfl)) (by have h:=plain_eqb (a.vk,a.vn,a.vt) (b.vk,b.vn,b.vt) w_6; rw[show ple (a.vk,a.vn,a.vt) (b.vk,b.vn,b.vt)=false from Bool.eq_false_iff.2 (fun k=>c13 ((ple_iff _ _).1 k))]at h; exact h),trivial⟩ ?_
   refine nl (X_ret (rj [bF] hR_ ?_))
   rw[show cLike a b=false from by unfold cLike; simp_all]
   exact⟨rfl,(bt hb2 b7)⟩
  refine xe 10 [(15,.eq bF)] [(4,bF)] [Value.bool (a.kind.toList==b.kind.toList)=bF] ⟨congrArg Value.bool (strEqF (c12)),trivial⟩ ?_
  refine nl (X_ret (rj [bF] hR_ ?_))
  rw[show cLike a b=false from by unfold cLike; simp_all]
  exact⟨rfl,(bt hb2 b7)⟩
 refine xe1 16 [(9,.eq bF)] [(4,bF)] (bN c11) ?_
 refine nl (X_ret (rj [bF] hR_ ?_))
 rw[show cLike a b=false from by unfold cLike; simp_all]
 exact⟨rfl,(bt hb2 b7)⟩
theorem r9same_any (a b:CellA)(A D:Option Addr)(k d:Nat)(w:World)(hA:kAttr.C w A a.attrs.length a.attrs)(hB:kAttr.C w D b.attrs.length b.attrs):Rt 30 #[.agg (c6A a (.slice A a.attrs.length k)),.agg (c6A b (.slice D b.attrs.length d))] w (.bool (cEqP a b)):=by
 refine en Tryz.func30 rfl 15 [(0,.agg (c6A a (aL A a.attrs k))),(1,.agg (c6A b (aL D b.attrs d)))] (fun R_ hR_=>?_)
 refine sg (xwe 1 [] [(1,.agg (c6A b (aL D b.attrs d))),(2,pw w.heap.size 0)] (w.alloc (.cells (c6A a (aL A a.attrs k)) 51)) [] trivial ?_)
 obtain⟨w1,w5,hb2,k3,z4⟩:=new_world w (c6A a (aL A a.attrs k)) 51
 rw[w5]
 refine xw 1 [] [(3,pw w1.heap.size 0)] [1] (w1.alloc (.cells (c6A b (aL D b.attrs d)) 51)) [] trivial ?_
 obtain⟨w_6,w10,b7,k8,z9⟩:=new_world w1 (c6A b (aL D b.attrs d)) 51
 rw[w10]
 refine xr0 1 [] [] ?_
 refine nl (sg (xr 2 [(5,.load (.agg (c6A a (aL A a.attrs k)))),(6,.load (.agg (c6A b (aL D b.attrs d))))] [(5,.agg (c6A a (aL A a.attrs k))),(6,.agg (c6A b (aL D b.attrs d)))] [] [la 51 (⟨w.heap.size,0,none⟩) (.agg (c6A a (aL A a.attrs k))) w_6,la 51 (⟨w1.heap.size,0,none⟩) (.agg (c6A b (aL D b.attrs d))) w_6] ⟨loadsB rfl rfl (Blk.below k3 b7) 0 ⟨by kernel_rfl,by kernel_rfl⟩,loadsB rfl rfl k8 0 ⟨by kernel_rfl,by kernel_rfl⟩,trivial⟩ ?_))
 refine xc 73 ent73 [.agg (c6A a (aL A a.attrs k)),.agg (c6A b (aL D b.attrs d))] (r9like_any a b _ _ _ _ _ (Kd.C_below hA (bt hb2 b7)) (Kd.C_below hB (bt hb2 b7))) ?_
 rintro e w11 ⟨rfl,b12⟩; refine⟨_,rfl,?_⟩
 refine xr0 1 [(8,.bool (cLike a b))] [5,6,7] ?_
 by_cases c13:cLike a b=true
 ·rw[show (cLike a b:Bool)=true from by simpa using c13]
  refine xe 4 [(10,.load (aL A a.attrs k)),(12,.load (aL D b.attrs d))] [(8,bT),(10,aL A a.attrs k),(12,aL D b.attrs d)] [_,_] ⟨lc 49 (Blk.below k3 (bt b7 b12)) 5,lc 49 (Blk.below k8 b12) 5,trivial⟩ ?_
  refine xc 98 ent98 [.slice A a.attrs.length k,aL D b.attrs d] (refSame_any _ _ _ _ a.attrs b.attrs _ (Kd.C_below hA (bt (bt hb2 b7) b12)) (Kd.C_below hB (bt (bt hb2 b7) b12))) ?_
  rintro e w14 ⟨rfl,b15⟩; refine⟨_,rfl,?_⟩
  refine xe0 2 [(4,.bool (decide (a.attrs=b.attrs)))] ?_
  refine nl (X_ret (rj [.bool (decide (a.attrs=b.attrs))] hR_ ?_))
  rw[show cEqP a b=decide (a.attrs=b.attrs)from by unfold cEqP; simp_all]
  exact⟨rfl,(bt (bt (bt hb2 b7) b12) b15)⟩
 rw[show (cLike a b:Bool)=false from by simpa using c13]
 refine xe0 7 [(4,bF)] ?_
 refine nl (X_ret (rj [bF] hR_ ?_))
 rw[show cEqP a b=false from by unfold cEqP; simp_all]
 exact⟨rfl,(bt (bt hb2 b7) b12)⟩
theorem r9list_any (A D:Option Addr)(c d:Nat)(xs ys:List CellA)(w:World)(hx:kCell.C w A xs.length xs)(hy:kCell.C w D ys.length ys):Rt 29 #[.slice A xs.length c,.slice D ys.length d] w (.bool (csEqP xs ys)):=by
 have hpl:xs.length≤9223372036854775807:=hx.2.1
 refine en Tryz.func29 rfl 27 [(0,aL A xs c),(1,aL D ys d)] (fun R_ hR_=>?_)
 refine sg (xe0 1 [(0,aL A xs c),(1,aL D ys d)] ?_)
 refine nl (sq (sg (xr0 4 [(7,i6 (xs.length:Int)),(9,i6 (ys.length:Int))] [] ?_)))
 by_cases c1:(xs.length:Int)=(ys.length:Int)
 ·refine xr1 1 [(10,.eq bF)] [(10,bF)] [7,9] (nF c1) ?_
  refine nl (cf (sk (sq (sg (xr0 3 [(12,i6 (xs.length:Int)),(13,i6 0)] [10] ?_)))))
  refine nl (bk (X_loop (ι:=Nat) (fun i=>[(0,aL A xs c),(1,aL D ys d),(12,i6 (xs.length:Int)),(13,i6 (i:Int))]) (fun i wl=>i≤xs.length∧xs.length=ys.length∧(∀ q,q<i→xs.getD q cell0=ys.getD q cell0)∧Below w.heap.size w wl) (fun i=>xs.length-i) 0 ⟨by omega,by omega,fun q hq=>by omega,(Below.refl _ _)⟩ (by kernel_rfl) ?_))
  rintro i wl ⟨hi,hlen,hq0,HB⟩
  refine sq (X_region ?_)
  by_cases c2:(i:Int)<(xs.length:Int)
  ·refine xr1 1 [(14,.eq bT)] [(14,bT)] [] (dT c2) ?_
   refine nl (sq (ct (sk (sq (bk (sg (xr0 2 [(5,nv i)] [14] ?_)))))))
   refine nl (sq (X_any [8] 10 (tf 0 10) (by kernel_rfl) (by kernel_rfl) (by kernel_rfl) (fun wd3 hb4 hh5=>?_)))
   refine XA_runC (fuel':=8) [0,1] [] [.slice A xs.length c,i6 (i:Int)] (tf 2 8) [(16,aL A xs c),(17,nv i)] [] [] trivial ?_
   obtain⟨ad6,B9,c10,a7,hc8,l11,C12⟩:=Kd.atCell (Kd.C_below hx (bt HB hb4)) (i:=(i:Int)) (by omega) (by omega)
   replace hc8:CellsAt wd3 (ad6.add ((i:Int).toNat*6)) (c6L (xs.getD i cell0) (aL B9 (xs.getD i cell0).attrs c10)):=hc8
   replace l11:(xs.getD i cell0).attrs.length≤c10:=l11
   replace C12:kAttr.C wd3 B9 ((xs.getD i cell0).attrs.length) (xs.getD i cell0).attrs:=C12
   refine XA_runC (fuel':=4) [2,3,4,5] [(18,.idx ad6),(19,.load (.agg (c6A (xs.getD i cell0) (aL B9 (xs.getD i cell0).attrs c10))))] [.pointer (some (ad6.add ((i:Int).toNat*6))),.agg (c6A (xs.getD i cell0) (aL B9 (xs.getD i cell0).attrs c10)),.slice D ys.length d,i6 (i:Int)] (tf 6 4) [(19,.agg (c6A (xs.getD i cell0) (aL B9 (xs.getD i cell0).attrs c10))),(20,aL D ys d),(21,nv i)] [5,16,17] [A=some ad6,(0:Int)≤(i:Int),(i:Int)<(xs.length:Int),la 51 (ad6.add ((i:Int).toNat*6)) (.agg (c6A (xs.getD i cell0) (aL B9 (xs.getD i cell0).attrs c10))) wd3] ⟨a7,(by omega),(by omega),loadsE rfl rfl hc8 0 ⟨by kernel_rfl,by kernel_rfl⟩,trivial⟩ ?_
   obtain⟨ad13,B16,c17,a14,hc15,l18,C19⟩:=Kd.atCell (Kd.C_below hy (bt HB hb4)) (i:=(i:Int)) (by omega) (by omega)
   replace hc15:CellsAt wd3 (ad13.add ((i:Int).toNat*6)) (c6L (ys.getD i cell0) (aL B16 (ys.getD i cell0).attrs c17)):=hc15
   replace l18:(ys.getD i cell0).attrs.length≤c17:=l18
   replace C19:kAttr.C wd3 B16 ((ys.getD i cell0).attrs.length) (ys.getD i cell0).attrs:=C19
   refine XA_runC (fuel':=2) [6,7] [(22,.idx ad13),(23,.load (.agg (c6A (ys.getD i cell0) (aL B16 (ys.getD i cell0).attrs c17))))] [.pointer (some (ad13.add ((i:Int).toNat*6))),.agg (c6A (ys.getD i cell0) (aL B16 (ys.getD i cell0).attrs c17))] (tf 8 2) [(23,.agg (c6A (ys.getD i cell0) (aL B16 (ys.getD i cell0).attrs c17)))] [20,21] [D=some ad13,(0:Int)≤(i:Int),(i:Int)<(ys.length:Int),la 51 (ad13.add ((i:Int).toNat*6)) (.agg (c6A (ys.getD i cell0) (aL B16 (ys.getD i cell0).attrs c17))) wd3] ⟨a14,(by omega),(by omega),loadsE rfl rfl hc15 0 ⟨by kernel_rfl,by kernel_rfl⟩,trivial⟩ ?_
   refine XA_act (fuel':=1) 8 (tf 9 1) _ rfl (by kernel_rfl) rfl (by kernel_rfl) rfl ?_
   refine xc 30 ent30 [.agg (c6A (xs.getD i cell0) (aL B9 (xs.getD i cell0).attrs c10)),.agg (c6A (ys.getD i cell0) (aL B16 (ys.getD i cell0).attrs c17))] (r9same_any (xs.getD i cell0) (ys.getD i cell0) _ _ _ _ _ C12 C19) ?_
   rintro e w20 ⟨rfl,b21⟩; refine⟨_,rfl,?_⟩
   refine nl ?_
   by_cases c22:cEqP (xs.getD i cell0) (ys.getD i cell0)=true
   ·rw[show (cEqP (xs.getD i cell0) (ys.getD i cell0):Bool)=true from by simpa using c22]
    refine XA_pure (fuel':=0) [9] [] [bF] (tf 10 0) [(0,aL A xs c),(1,aL D ys d),(12,i6 (xs.length:Int)),(13,i6 (i:Int)),(25,bF)] (fun w_=>[]) (fun w_=>trivial) ?_
    refine XA_done (by kernel_rfl) ?_
    refine cf (sk (rg (xr1 2 [(26,.eq (i6 ((i:Int)+1)))] [(13,i6 ((i:Int)+1))] [25] (w6 ((i:Int)+1)) ?_)))
    refine nl ?_
    refine⟨(i+1),by kernel_rfl,?_,?_⟩
    ·exact⟨by omega,by omega,fun q hq=>by by_cases e_:q=i; (· subst e_; exact(cEqP_iff _ _).1 c22); (· exact hq0 q (by omega)),(bt (bt HB hb4) b21)⟩
    (try dsimp only); omega
   rw[show (cEqP (xs.getD i cell0) (ys.getD i cell0):Bool)=false from by simpa using c22]
   refine XA_pure (fuel':=0) [9] [] [bT] (tf 10 0) [(0,aL A xs c),(1,aL D ys d),(12,i6 (xs.length:Int)),(13,i6 (i:Int)),(25,bT)] (fun w_=>[]) (fun w_=>trivial) ?_
   refine XA_done (by kernel_rfl) ?_
   refine ct (sg (xe0 1 [(4,bF)] ?_))
   refine nl (X_ret (rj [bF] hR_ ?_))
   rw[(csEqP_false xs ys).2 (fun e_=>c22 ((cEqP_iff _ _).2 (by rw[e_])))]
   exact⟨rfl,(bt (bt HB hb4) b21)⟩
  refine xr1 1 [(14,.eq bF)] [(14,bF)] [] (dF c2) ?_
  refine nl (sq (cf (X_exit (sg (xe0 1 [(4,bT)] ?_)))))
  refine nl (X_ret (rj [bT] hR_ ?_))
  rw[(csEqP_iff xs ys).2 (cells_ext hlen (fun q hq=>hq0 q (by omega)))]
  exact⟨rfl,HB⟩
 refine xr1 1 [(10,.eq bT)] [(10,bT)] [7,9] (nT c1) ?_
 refine nl (ct (sg (xe0 1 [(4,bF)] ?_)))
 refine nl (X_ret (rj [bF] hR_ ?_))
 rw[(csEqP_false xs ys).2 (fun e_=>by subst e_; omega)]
 exact⟨rfl,(Below.refl _ _)⟩
end Go.Proofs.YtgphmfnkeolbcaaGreatDoor
