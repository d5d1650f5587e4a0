import Derived.Test.YtgphmfnkeolbcaaGreatDoorMixP
import Derived.Test.YtgphmfnkeolbcaaGreatDoorSpare
import Derived.Test.YtgphmfnkeolbcaaGreatDoorCls
/- vellumref06.push: B.push. Conditions: sizes. -/
set_option linter.unusedVariables false
set_option linter.unusedSimpArgs false
set_option maxRecDepth 100000
namespace Go.Proofs.YtgphmfnkeolbcaaGreatDoor
open Go Go.RowKit Go.Proofs.YtgphmfnkeolbcaaGreatDoorW.PrintWords RX
theorem ent198 :Ent Tryz.prog 198:=ent_of Tryz.func198 (by kernel_rfl) rfl
theorem push_in {xs:List OpA}{o:OpA}(h0:xs.length≠0)(hm:B.meets (xs.getD ((xs.length:Int)-1).toNat op0) o):(xs.set ((xs.length:Int)-1).toNat (setT (xs.getD ((xs.length:Int)-1).toNat op0) ((xs.getD ((xs.length:Int)-1).toNat op0).text++o.text))).set ((xs.length:Int)-1).toNat (setN ((xs.set ((xs.length:Int)-1).toNat (setT (xs.getD ((xs.length:Int)-1).toNat op0) ((xs.getD ((xs.length:Int)-1).toNat op0).text++o.text))).getD ((xs.length:Int)-1).toNat op0) (((xs.set ((xs.length:Int)-1).toNat (setT (xs.getD ((xs.length:Int)-1).toNat op0) ((xs.getD ((xs.length:Int)-1).toNat op0).text++o.text))).getD ((xs.length:Int)-1).toNat op0).count+o.count))=B.push xs o:=by
 have e:((xs.length:Int)-1).toNat=xs.length-1:=by omega
 rw[e]at hm ⊢
 have e2:(xs.set (xs.length-1) (setT (xs.getD (xs.length-1) op0) ((xs.getD (xs.length-1) op0).text++o.text))).getD (xs.length-1) op0=setT (xs.getD (xs.length-1) op0) ((xs.getD (xs.length-1) op0).text++o.text):=by
  rw[List.getD_eq_getElem?_getD,List.getElem?_set_self (by omega)]; rfl
 rw[e2,List.set_set]
 unfold B.push
 rw[if_pos ⟨h0,hm⟩]; rfl
theorem push_out {xs:List OpA}{o:OpA}(h:xs.length=0∨¬B.meets (xs.getD ((xs.length:Int)-1).toNat op0) o):B.push xs o=xs++[o]:=B.push_far (by
 rcases h with h|h
 ·exact .inl h
 by_cases h0:xs.length=0
 ·exact .inl h0
 refine .inr ?_
 rw[show ((xs.length:Int)-1).toNat=xs.length-1 by omega]at h
 exact h)
set_option maxHeartbeats 4000000 in
theorem r6push_any (A:Option Addr)(c:Nat)(xs:List OpA)(o:OpA)(D:Option Addr)(d:Nat)(bs:Nat)(W0 w:World)(hW:Below W0.heap.size W0 w)(hx:MixK kOp op0 102 bs W0 w A xs.length c xs)(hD:kAttr.C W0 D o.attrs.length o.attrs)(hDl:o.attrs.length≤d)(hB:bs≤w.heap.size)(hn:xs.length≤4000000)(hts:(xs.getD ((xs.length:Int)-1).toNat op0).text.size+o.text.size≤9223372036854775807)(hcs: -9223372036854775808≤(xs.getD ((xs.length:Int)-1).toNat op0).count+o.count∧(xs.getD ((xs.length:Int)-1).toNat op0).count+o.count≤9223372036854775807):
  Calls Tryz.prog 198 #[.slice A xs.length c,.agg (o7A o (.slice D o.attrs.length d))] w fun e w'=>∃ A1 c1,e=.returned (.slice A1 (B.push xs o).length c1)∧MixK kOp op0 102 bs W0 w' A1 (B.push xs o).length c1 (B.push xs o)∧w.grownBy w' (A.map (·.block))∧(A1.map (·.block)=A.map (·.block)∨∃ b,A1.map (·.block)=some b∧w.heap.size≤b):=by
 refine en Tryz.func198 rfl 65 [(0,.slice A xs.length c),(1,.agg (o7A o (.slice D o.attrs.length d)))] (fun R_ hR_=>?_)
 have hxC:=MixK.C hx hW
 refine sg (xwe 1 [] [(0,.slice A xs.length c),(3,pw w.heap.size 0)] (w.alloc (.cells (o7A o (.slice D o.attrs.length d)) 102)) [] trivial ?_)
 obtain⟨w1,w5,b2,k3,z4⟩:=new_world w (o7A o (.slice D o.attrs.length d)) 102
 rw[w5]
 refine xr0 1 [] [] ?_
 refine nl (sg (xr0 3 [(5,i6 (xs.length:Int))] [] ?_))
 refine nl (sq (sq (X_any [27] 30 (tf 0 30) (by kernel_rfl) (by kernel_rfl) (by kernel_rfl) (fun wd6 b7 h8=>?_))))
 refine XA_runC (fuel':=29) [0] [] [i6 (xs.length:Int)] (tf 1 29) [(8,i6 (xs.length:Int))] [] [] trivial ?_
 by_cases c9:(xs.length:Int)=0
 ·refine XA_runC (fuel':=3) [1,2,3,4,5,6,7,8,9,10,11,12,13,14,15,16,17,18,19,20,21,22,23,24,25,26] [(9,.eq bT)] [bT,bT,undef,undef,undef,undef,undef,undef,undef,undef,undef,bT,bT,undef,undef,undef,bT,bT,undef,undef,undef,undef,undef,undef,undef,undef] (tf 27 3) [(26,bT),(32,undef),(34,undef)] [8] [Value.bool ((xs.length:Int)==0)=bT] ⟨congrArg Value.bool (beq_iff_eq.2 (c9)),trivial⟩ ?_
  refine XA_pureC (fuel':=2) [27] [] [undef] (tf 28 2) [(35,undef)] [32,34] (fun w_=>[]) (fun w_=>trivial) ?_
  refine XA_pure (fuel':=0) [28,29] [] [undef,bT] (tf 30 0) [(0,.slice A xs.length c),(3,pw w.heap.size 0),(5,i6 (xs.length:Int)),(37,bT)] (fun w_=>[]) (fun w_=>trivial) ?_
  refine XA_done (by kernel_rfl) ?_
  refine ct (sg (xwe 3 [(39,.load (.agg (o7A o (.slice D o.attrs.length d))))] [(38,.slice A xs.length c),(40,.slice (some ⟨wd6.heap.size,0,none⟩) 1 1)] (wd6.alloc (.cells (o7A o (.slice D o.attrs.length d)) 102)) [la 102 (⟨w.heap.size,0,none⟩) (.agg (o7A o (.slice D o.attrs.length d))) wd6] ⟨loadsB rfl rfl (Blk.below k3 b7) 0 ⟨by kernel_rfl,by kernel_rfl⟩,trivial⟩ ?_))
  obtain⟨w10,w14,b11,k12,z13⟩:=new_world wd6 (o7A o (.slice D o.attrs.length d)) 102
  rw[w14]
  have R15:=Kd.R_litB (kRaw 7) (W:=wd6) (e:=102) (cs:=(o7A o (.slice D o.attrs.length d))) [(o7L o (.slice D o.attrs.length d))] k12 (rawL1 _ rfl (by kernel_rfl)) (Nat.le_of_ble_eq_true (by kernel_rfl))
  refine XL_appendMixH (d:=kOp) (W0:=W0) (B:=bs) (c':=1) (m:=1) op0 rfl rfl rfl 102 (.agg #[i6 0,s0,i6 0,i6 0,s0,i6 0,.slice none 0 0]) 88 Tryz.underlying22 info102 rfl (by decide) (by omega) xs [o] [(o7L o (.slice D o.attrs.length d))] (by kernel_rfl) (MixK.below hx (bt (bt b2 b7) b11)) (Kd.R_C R15) rfl (fun i_ hi_=>by have h_:i_=0:=(by omega); subst h_; exact kOp_K_of (x:=o) hDl hD) (Nat.le_trans hB ((bt (bt b2 b7) b11)).size) (by omega) ?_
  intro A16 c17 w18 m19 g20 l21 hat22
  refine xe0 1 [(4,.slice A16 ((xs++[o]).length) c17)] ?_
  refine nl (X_ret (rj [.slice A16 ((xs++[o]).length) c17] hR_ ?_))
  rw[push_out (xs:=xs) (o:=o) (by first|exact .inl (by omega)|exact .inr (fun h_=>by obtain⟨h1_,h2_,h3_⟩:=h_; first|omega|simp_all))]
  exact⟨_,_,rfl,m19,(World.grownBy.trans (grown_of_below (bt (bt b2 b7) b11) _) g20),hat22.imp_right fun⟨b_,h1_,h2_⟩=>⟨b_,h1_,Nat.le_trans ((bt (bt b2 b7) b11)).size h2_⟩⟩
 refine XA_runC (fuel':=24) [1,2,3,4,5] [(9,.eq bF),(13,.eq (i6 ((xs.length:Int)-1)))] [bF,bF,.slice A xs.length c,i6 (xs.length:Int),i6 ((xs.length:Int)-1)] (tf 6 24) [(10,bF),(11,.slice A xs.length c),(13,i6 ((xs.length:Int)-1))] [8] [Value.bool ((xs.length:Int)==0)=bF,i6 (IntKind.i64.wrap ((xs.length:Int)-1))=i6 ((xs.length:Int)-1)] ⟨congrArg Value.bool (beq_eq_false_iff_ne.2 (c9)),wr_i64 (by omega) (by omega),trivial⟩ ?_
 obtain⟨ad23,B26,c27,a24,c25,l28,C29⟩:=MixK.op (MixK.below hx (bt b2 b7)) (i:=(xs.length:Int)-1) (by omega) (by omega)
 replace c25:CellsAt wd6 (ad23.add (((xs.length:Int)-1).toNat*7)) (o7L (xs.getD ((xs.length:Int)-1).toNat op0) (.slice B26 ((xs.getD ((xs.length:Int)-1).toNat op0).attrs.length) c27)):=c25
 replace l28:(xs.getD ((xs.length:Int)-1).toNat op0).attrs.length≤c27:=l28
 replace C29:kAttr.C W0 B26 ((xs.getD ((xs.length:Int)-1).toNat op0).attrs.length) (xs.getD ((xs.length:Int)-1).toNat op0).attrs:=C29
 refine XA_runC (fuel':=19) [6,7,8,9,10] [(14,.idx ad23),(16,.load (i6 ((xs.getD ((xs.length:Int)-1).toNat op0).kind))),(18,.load (i6 o.kind))] [.pointer (some (ad23.add (((xs.length:Int)-1).toNat*7))),.pointer (some (ad23.add (((xs.length:Int)-1).toNat*7))),i6 ((xs.getD ((xs.length:Int)-1).toNat op0).kind),pw w.heap.size 0,i6 o.kind] (tf 11 19) [(16,i6 ((xs.getD ((xs.length:Int)-1).toNat op0).kind)),(18,i6 o.kind)] [11,13] [A=some ad23,(0:Int)≤(xs.length:Int)-1,(xs.length:Int)-1<(xs.length:Int),la 3 (ad23.add (((xs.length:Int)-1).toNat*7)) (i6 ((xs.getD ((xs.length:Int)-1).toNat op0).kind)) wd6,la 3 (⟨w.heap.size,0,none⟩) (i6 o.kind) wd6] ⟨a24,(by omega),(by omega),loads1 rfl (elem_cell c25 0 _ rfl),loads1 rfl (Blk.cell (Blk.below k3 b7) 0 _ rfl),trivial⟩ ?_
 by_cases c30:(xs.getD ((xs.length:Int)-1).toNat op0).kind=o.kind
 ·refine XA_run (fuel':=14) [11,12,13,14,15] [(19,.eq bF),(23,.load (i6 o.kind))] [bF,bF,bF,pw w.heap.size 0,i6 o.kind] (tf 16 14) [(0,.slice A xs.length c),(3,pw w.heap.size 0),(5,i6 (xs.length:Int)),(21,bF),(23,i6 o.kind)] [Value.bool ((xs.getD ((xs.length:Int)-1).toNat op0).kind !=o.kind)=bF,la 3 (⟨w.heap.size,0,none⟩) (i6 o.kind) wd6] ⟨congrArg Value.bool (bneF (c30)),loads1 rfl (Blk.cell (Blk.below k3 b7) 0 _ rfl),trivial⟩ ?_
  by_cases c31:o.kind=2
  ·refine XA_runC (fuel':=3) [16,17,18,19,20,21,22,23,24,25,26] [(24,.eq bT)] [bT,bT,bT,undef,undef,undef,undef,undef,undef,undef,undef] (tf 27 3) [(26,bT),(32,undef),(34,undef)] [21,23] [Value.bool (o.kind==2)=bT] ⟨congrArg Value.bool (beq_iff_eq.2 (c31)),trivial⟩ ?_
   refine XA_pureC (fuel':=2) [27] [] [undef] (tf 28 2) [(35,undef)] [32,34] (fun w_=>[]) (fun w_=>trivial) ?_
   refine XA_pureC (fuel':=0) [28,29] [] [undef,bT] (tf 30 0) [(37,bT)] [26,35] (fun w_=>[]) (fun w_=>trivial) ?_
   refine XA_done (by kernel_rfl) ?_
   refine ct (sg (xwe 3 [(39,.load (.agg (o7A o (.slice D o.attrs.length d))))] [(38,.slice A xs.length c),(40,.slice (some ⟨wd6.heap.size,0,none⟩) 1 1)] (wd6.alloc (.cells (o7A o (.slice D o.attrs.length d)) 102)) [la 102 (⟨w.heap.size,0,none⟩) (.agg (o7A o (.slice D o.attrs.length d))) wd6] ⟨loadsB rfl rfl (Blk.below k3 b7) 0 ⟨by kernel_rfl,by kernel_rfl⟩,trivial⟩ ?_))
   obtain⟨w32,w36,b33,k34,z35⟩:=new_world wd6 (o7A o (.slice D o.attrs.length d)) 102
   rw[w36]
   have R37:=Kd.R_litB (kRaw 7) (W:=wd6) (e:=102) (cs:=(o7A o (.slice D o.attrs.length d))) [(o7L o (.slice D o.attrs.length d))] k34 (rawL1 _ rfl (by kernel_rfl)) (Nat.le_of_ble_eq_true (by kernel_rfl))
   refine XL_appendMixH (d:=kOp) (W0:=W0) (B:=bs) (c':=1) (m:=1) op0 rfl rfl rfl 102 (.agg #[i6 0,s0,i6 0,i6 0,s0,i6 0,.slice none 0 0]) 88 Tryz.underlying22 info102 rfl (by decide) (by omega) xs [o] [(o7L o (.slice D o.attrs.length d))] (by kernel_rfl) (MixK.below hx (bt (bt b2 b7) b33)) (Kd.R_C R37) rfl (fun i_ hi_=>by have h_:i_=0:=(by omega); subst h_; exact kOp_K_of (x:=o) hDl hD) (Nat.le_trans hB ((bt (bt b2 b7) b33)).size) (by omega) ?_
   intro A38 c39 w40 m41 g42 l43 hat44
   refine xe0 1 [(4,.slice A38 ((xs++[o]).length) c39)] ?_
   refine nl (X_ret (rj [.slice A38 ((xs++[o]).length) c39] hR_ ?_))
   rw[push_out (xs:=xs) (o:=o) (by first|exact .inl (by omega)|exact .inr (fun h_=>by obtain⟨h1_,h2_,h3_⟩:=h_; first|omega|simp_all))]
   exact⟨_,_,rfl,m41,(World.grownBy.trans (grown_of_below (bt (bt b2 b7) b33) _) g42),hat44.imp_right fun⟨b_,h1_,h2_⟩=>⟨b_,h1_,Nat.le_trans ((bt (bt b2 b7) b33)).size h2_⟩⟩
  refine XA_runC (fuel':=8) [16,17,18,19,20,21] [(24,.eq bF),(29,.eq (i6 ((xs.length:Int)-1)))] [bF,bF,bF,.slice A xs.length c,i6 (xs.length:Int),i6 ((xs.length:Int)-1)] (tf 22 8) [(26,bF),(27,.slice A xs.length c),(29,i6 ((xs.length:Int)-1))] [21,23] [Value.bool (o.kind==2)=bF,i6 (IntKind.i64.wrap ((xs.length:Int)-1))=i6 ((xs.length:Int)-1)] ⟨congrArg Value.bool (beq_eq_false_iff_ne.2 (c31)),wr_i64 (by omega) (by omega),trivial⟩ ?_
  obtain⟨ad45,B48,c49,a46,c47,l50,C51⟩:=MixK.op (MixK.below hx (bt b2 b7)) (i:=(xs.length:Int)-1) (by omega) (by omega)
  replace c47:CellsAt wd6 (ad45.add (((xs.length:Int)-1).toNat*7)) (o7L (xs.getD ((xs.length:Int)-1).toNat op0) (.slice B48 ((xs.getD ((xs.length:Int)-1).toNat op0).attrs.length) c49)):=c47
  replace l50:(xs.getD ((xs.length:Int)-1).toNat op0).attrs.length≤c49:=l50
  replace C51:kAttr.C W0 B48 ((xs.getD ((xs.length:Int)-1).toNat op0).attrs.length) (xs.getD ((xs.length:Int)-1).toNat op0).attrs:=C51
  refine XA_runC (fuel':=3) [22,23,24,25,26] [(30,.idx ad45),(32,.load (.slice B48 ((xs.getD ((xs.length:Int)-1).toNat op0).attrs.length) c49)),(34,.load (.slice D o.attrs.length d))] [.pointer (some (ad45.add (((xs.length:Int)-1).toNat*7))),.pointer (some ((ad45.add (((xs.length:Int)-1).toNat*7)).add 6)),.slice B48 ((xs.getD ((xs.length:Int)-1).toNat op0).attrs.length) c49,pw w.heap.size 6,.slice D o.attrs.length d] (tf 27 3) [(32,.slice B48 ((xs.getD ((xs.length:Int)-1).toNat op0).attrs.length) c49),(34,.slice D o.attrs.length d)] [27,29] [A=some ad45,(0:Int)≤(xs.length:Int)-1,(xs.length:Int)-1<(xs.length:Int),la 49 ((ad45.add (((xs.length:Int)-1).toNat*7)).add 6) (.slice B48 ((xs.getD ((xs.length:Int)-1).toNat op0).attrs.length) c49) wd6,la 49 (⟨w.heap.size,6,none⟩) (.slice D o.attrs.length d) wd6] ⟨a46,(by omega),(by omega),loads1 rfl (elem_cell c47 6 _ rfl),loads1 rfl (Blk.cell (Blk.below k3 b7) 6 _ rfl),trivial⟩ ?_
  refine XA_act (fuel':=2) 27 (tf 28 2) _ rfl (by kernel_rfl) rfl (by kernel_rfl) rfl ?_
  refine xc 98 ent98 [.slice B48 ((xs.getD ((xs.length:Int)-1).toNat op0).attrs.length) c49,.slice D o.attrs.length d] (refSame_any _ _ _ _ ((xs.getD ((xs.length:Int)-1).toNat op0).attrs) o.attrs _ (Kd.C_below C51 (bt (bt hW b2) b7)) (Kd.C_below hD (bt (bt hW b2) b7))) ?_
  rintro e w52 ⟨rfl,b53⟩; refine⟨_,rfl,?_⟩
  refine nl ?_
  by_cases c54:decide ((xs.getD ((xs.length:Int)-1).toNat op0).attrs=o.attrs)=true
  ·rw[show (decide ((xs.getD ((xs.length:Int)-1).toNat op0).attrs=o.attrs):Bool)=true from by simpa using c54]
   refine XA_pureC (fuel':=0) [28,29] [] [bF,bF] (tf 30 0) [(37,bF)] [26,32,34,35] (fun w_=>[]) (fun w_=>trivial) ?_
   refine XA_done (by kernel_rfl) ?_
   refine cf (sk (sq (X_any [11] 12 (tf 0 12) (by kernel_rfl) (by kernel_rfl) (by kernel_rfl) (fun wd55 b56 h57=>?_))))
   refine XA_runC (fuel':=9) [0,1,2] [(44,.eq (i6 ((xs.length:Int)-1)))] [.slice A xs.length c,i6 (xs.length:Int),i6 ((xs.length:Int)-1)] (tf 3 9) [(42,.slice A xs.length c),(44,i6 ((xs.length:Int)-1))] [37] [i6 (IntKind.i64.wrap ((xs.length:Int)-1))=i6 ((xs.length:Int)-1)] ⟨wr_i64 (by omega) (by omega),trivial⟩ ?_
   obtain⟨ad58,B61,c62,a59,c60,l63,C64⟩:=MixK.op (MixK.below hx (bt (bt (bt b2 b7) b53) b56)) (i:=(xs.length:Int)-1) (by omega) (by omega)
   replace c60:CellsAt wd55 (ad58.add (((xs.length:Int)-1).toNat*7)) (o7L (xs.getD ((xs.length:Int)-1).toNat op0) (.slice B61 ((xs.getD ((xs.length:Int)-1).toNat op0).attrs.length) c62)):=c60
   replace l63:(xs.getD ((xs.length:Int)-1).toNat op0).attrs.length≤c62:=l63
   replace C64:kAttr.C W0 B61 ((xs.getD ((xs.length:Int)-1).toNat op0).attrs.length) (xs.getD ((xs.length:Int)-1).toNat op0).attrs:=C64
   refine XA_runC (fuel':=3) [3,4,5,6,7,8] [(45,.idx ad58),(47,.load (sT ((xs.getD ((xs.length:Int)-1).toNat op0).text))),(49,.load (sT o.text)),(50,.as (sT (((xs.getD ((xs.length:Int)-1).toNat op0).text)++o.text)))] [.pointer (some (ad58.add (((xs.length:Int)-1).toNat*7))),.pointer (some ((ad58.add (((xs.length:Int)-1).toNat*7)).add 1)),sT ((xs.getD ((xs.length:Int)-1).toNat op0).text),pw w.heap.size 1,sT o.text,sT (((xs.getD ((xs.length:Int)-1).toNat op0).text)++o.text)] (tf 9 3) [(50,sT (((xs.getD ((xs.length:Int)-1).toNat op0).text)++o.text))] [] [A=some ad58,(0:Int)≤(xs.length:Int)-1,(xs.length:Int)-1<(xs.length:Int),la 9 ((ad58.add (((xs.length:Int)-1).toNat*7)).add 1) (sT ((xs.getD ((xs.length:Int)-1).toNat op0).text)) wd55,la 9 (⟨w.heap.size,1,none⟩) (sT o.text) wd55,RunsAs Tryz.prog [(47,sT ((xs.getD ((xs.length:Int)-1).toNat op0).text)),(49,sT o.text)] (Go.Op.binOp Go.BinOp.add 9 (Go.Operand.tmp 47) (Go.Operand.tmp 49) 9) 9 (sT (((xs.getD ((xs.length:Int)-1).toNat op0).text)++o.text)) wd55] ⟨a59,(by omega),(by omega),loads1 rfl (elem_cell c60 1 _ rfl),loads1 rfl (Blk.cell (Blk.below k3 (bt (bt b7 b53) b56)) 1 _ rfl),runs_bin rfl rfl rfl (run_sadd (by omega)),trivial⟩ ?_
   obtain⟨ad65,B68,c69,a66,c67,l70,C71⟩:=MixK.op (MixK.below hx (bt (bt (bt b2 b7) b53) b56)) (i:=(xs.length:Int)-1) (by omega) (by omega)
   replace c67:CellsAt wd55 (ad65.add (((xs.length:Int)-1).toNat*7)) (o7L (xs.getD ((xs.length:Int)-1).toNat op0) (.slice B68 ((xs.getD ((xs.length:Int)-1).toNat op0).attrs.length) c69)):=c67
   replace l70:(xs.getD ((xs.length:Int)-1).toNat op0).attrs.length≤c69:=l70
   replace C71:kAttr.C W0 B68 ((xs.getD ((xs.length:Int)-1).toNat op0).attrs.length) (xs.getD ((xs.length:Int)-1).toNat op0).attrs:=C71
   refine XA_run (fuel':=1) [9,10] [(51,.idx ad65)] [.pointer (some (ad65.add (((xs.length:Int)-1).toNat*7))),.pointer (some ((ad65.add (((xs.length:Int)-1).toNat*7)).add 1))] (tf 11 1) [(0,.slice A xs.length c),(3,pw w.heap.size 0),(5,i6 (xs.length:Int)),(50,sT (((xs.getD ((xs.length:Int)-1).toNat op0).text)++o.text)),(52,.pointer (some ((ad65.add (((xs.length:Int)-1).toNat*7)).add 1)))] [A=some ad65,(0:Int)≤(xs.length:Int)-1,(xs.length:Int)-1<(xs.length:Int)] ⟨a66,(by omega),(by omega),trivial⟩ ?_
   refine XA_act (fuel':=0) 11 (tf 12 0) _ rfl (by kernel_rfl) rfl (by kernel_rfl) rfl ?_
   refine XL_mixText rfl rfl rfl (i:=((xs.length:Int)-1)) (((xs.getD ((xs.length:Int)-1).toNat op0).text)++o.text) (by kernel_rfl) a66 (MixK.below hx (bt (bt (bt b2 b7) b53) b56)) (by omega) (by omega) (by kernel_rfl) (fun w72 m73 g74 l75=>?_)
   have k76:=Blk.off (Blk.below k3 (bt (bt b7 b53) b56)) g74 (fun x_ e_=>Nat.ne_of_lt (Nat.lt_of_lt_of_le (MixK.lt hx x_ e_) (Nat.le_refl _)))
   refine nl (XA_done (by kernel_rfl) ?_)
   refine sq (X_any [11] 12 (tf 0 12) (by kernel_rfl) (by kernel_rfl) (by kernel_rfl) (fun wd77 b78 h79=>?_))
   have hcs2:((xs.set ((xs.length:Int)-1).toNat (setT (xs.getD ((xs.length:Int)-1).toNat op0) (((xs.getD ((xs.length:Int)-1).toNat op0).text)++o.text))).getD ((xs.length:Int)-1).toNat op0).count=(xs.getD ((xs.length:Int)-1).toNat op0).count:=by rw[List.getD_eq_getElem?_getD,List.getElem?_set_self (by omega)]; rfl
   refine XA_runC (fuel':=9) [0,1,2] [(55,.eq (i6 ((xs.length:Int)-1)))] [.slice A xs.length c,i6 (xs.length:Int),i6 ((xs.length:Int)-1)] (tf 3 9) [(53,.slice A xs.length c),(55,i6 ((xs.length:Int)-1))] [5,50,52] [i6 (IntKind.i64.wrap ((xs.length:Int)-1))=i6 ((xs.length:Int)-1)] ⟨wr_i64 (by omega) (by omega),trivial⟩ ?_
   obtain⟨ad80,B83,c84,a81,c82,l85,C86⟩:=MixK.op (MixK.below m73 b78) (i:=(xs.length:Int)-1) (by omega) (by omega)
   replace c82:CellsAt wd77 (ad80.add (((xs.length:Int)-1).toNat*7)) [i6 (((xs.set ((xs.length:Int)-1).toNat (setT (xs.getD ((xs.length:Int)-1).toNat op0) (((xs.getD ((xs.length:Int)-1).toNat op0).text)++o.text))).getD ((xs.length:Int)-1).toNat op0).kind),sT (((xs.set ((xs.length:Int)-1).toNat (setT (xs.getD ((xs.length:Int)-1).toNat op0) (((xs.getD ((xs.length:Int)-1).toNat op0).text)++o.text))).getD ((xs.length:Int)-1).toNat op0).text),i6 (((xs.set ((xs.length:Int)-1).toNat (setT (xs.getD ((xs.length:Int)-1).toNat op0) (((xs.getD ((xs.length:Int)-1).toNat op0).text)++o.text))).getD ((xs.length:Int)-1).toNat op0).vk),i6 (((xs.set ((xs.length:Int)-1).toNat (setT (xs.getD ((xs.length:Int)-1).toNat op0) (((xs.getD ((xs.length:Int)-1).toNat op0).text)++o.text))).getD ((xs.length:Int)-1).toNat op0).vn),sT (((xs.set ((xs.length:Int)-1).toNat (setT (xs.getD ((xs.length:Int)-1).toNat op0) (((xs.getD ((xs.length:Int)-1).toNat op0).text)++o.text))).getD ((xs.length:Int)-1).toNat op0).vt),i6 (((xs.set ((xs.length:Int)-1).toNat (setT (xs.getD ((xs.length:Int)-1).toNat op0) (((xs.getD ((xs.length:Int)-1).toNat op0).text)++o.text))).getD ((xs.length:Int)-1).toNat op0).count),.slice B83 (((xs.set ((xs.length:Int)-1).toNat (setT (xs.getD ((xs.length:Int)-1).toNat op0) (((xs.getD ((xs.length:Int)-1).toNat op0).text)++o.text))).getD ((xs.length:Int)-1).toNat op0).attrs.length) c84]:=c82
   replace l85:((xs.set ((xs.length:Int)-1).toNat (setT (xs.getD ((xs.length:Int)-1).toNat op0) (((xs.getD ((xs.length:Int)-1).toNat op0).text)++o.text))).getD ((xs.length:Int)-1).toNat op0).attrs.length≤c84:=l85
   replace C86:kAttr.C W0 B83 (((xs.set ((xs.length:Int)-1).toNat (setT (xs.getD ((xs.length:Int)-1).toNat op0) (((xs.getD ((xs.length:Int)-1).toNat op0).text)++o.text))).getD ((xs.length:Int)-1).toNat op0).attrs.length) ((xs.set ((xs.length:Int)-1).toNat (setT (xs.getD ((xs.length:Int)-1).toNat op0) (((xs.getD ((xs.length:Int)-1).toNat op0).text)++o.text))).getD ((xs.length:Int)-1).toNat op0).attrs:=C86
   refine XA_runC (fuel':=3) [3,4,5,6,7,8] [(56,.idx ad80),(58,.load (i6 (((xs.set ((xs.length:Int)-1).toNat (setT (xs.getD ((xs.length:Int)-1).toNat op0) (((xs.getD ((xs.length:Int)-1).toNat op0).text)++o.text))).getD ((xs.length:Int)-1).toNat op0).count))),(60,.load (i6 o.count)),(61,.eq (i6 ((((xs.set ((xs.length:Int)-1).toNat (setT (xs.getD ((xs.length:Int)-1).toNat op0) (((xs.getD ((xs.length:Int)-1).toNat op0).text)++o.text))).getD ((xs.length:Int)-1).toNat op0).count)+o.count)))] [.pointer (some (ad80.add (((xs.length:Int)-1).toNat*7))),.pointer (some ((ad80.add (((xs.length:Int)-1).toNat*7)).add 5)),i6 (((xs.set ((xs.length:Int)-1).toNat (setT (xs.getD ((xs.length:Int)-1).toNat op0) (((xs.getD ((xs.length:Int)-1).toNat op0).text)++o.text))).getD ((xs.length:Int)-1).toNat op0).count),pw w.heap.size 5,i6 o.count,i6 ((((xs.set ((xs.length:Int)-1).toNat (setT (xs.getD ((xs.length:Int)-1).toNat op0) (((xs.getD ((xs.length:Int)-1).toNat op0).text)++o.text))).getD ((xs.length:Int)-1).toNat op0).count)+o.count)] (tf 9 3) [(61,i6 ((((xs.set ((xs.length:Int)-1).toNat (setT (xs.getD ((xs.length:Int)-1).toNat op0) (((xs.getD ((xs.length:Int)-1).toNat op0).text)++o.text))).getD ((xs.length:Int)-1).toNat op0).count)+o.count))] [3] [A=some ad80,(0:Int)≤(xs.length:Int)-1,(xs.length:Int)-1<(xs.length:Int),la 3 ((ad80.add (((xs.length:Int)-1).toNat*7)).add 5) (i6 (((xs.set ((xs.length:Int)-1).toNat (setT (xs.getD ((xs.length:Int)-1).toNat op0) (((xs.getD ((xs.length:Int)-1).toNat op0).text)++o.text))).getD ((xs.length:Int)-1).toNat op0).count)) wd77,la 3 (⟨w.heap.size,5,none⟩) (i6 o.count) wd77,i6 (IntKind.i64.wrap ((((xs.set ((xs.length:Int)-1).toNat (setT (xs.getD ((xs.length:Int)-1).toNat op0) (((xs.getD ((xs.length:Int)-1).toNat op0).text)++o.text))).getD ((xs.length:Int)-1).toNat op0).count)+o.count))=i6 ((((xs.set ((xs.length:Int)-1).toNat (setT (xs.getD ((xs.length:Int)-1).toNat op0) (((xs.getD ((xs.length:Int)-1).toNat op0).text)++o.text))).getD ((xs.length:Int)-1).toNat op0).count)+o.count)] ⟨a81,(by omega),(by omega),loads1 rfl (elem_cell c82 5 _ rfl),loads1 rfl (Blk.cell (Blk.below k76 b78) 5 _ rfl),wr_i64 (by omega) (by omega),trivial⟩ ?_
   obtain⟨ad87,B90,c91,a88,c89,l92,C93⟩:=MixK.op (MixK.below m73 b78) (i:=(xs.length:Int)-1) (by omega) (by omega)
   replace c89:CellsAt wd77 (ad87.add (((xs.length:Int)-1).toNat*7)) [i6 (((xs.set ((xs.length:Int)-1).toNat (setT (xs.getD ((xs.length:Int)-1).toNat op0) (((xs.getD ((xs.length:Int)-1).toNat op0).text)++o.text))).getD ((xs.length:Int)-1).toNat op0).kind),sT (((xs.set ((xs.length:Int)-1).toNat (setT (xs.getD ((xs.length:Int)-1).toNat op0) (((xs.getD ((xs.length:Int)-1).toNat op0).text)++o.text))).getD ((xs.length:Int)-1).toNat op0).text),i6 (((xs.set ((xs.length:Int)-1).toNat (setT (xs.getD ((xs.length:Int)-1).toNat op0) (((xs.getD ((xs.length:Int)-1).toNat op0).text)++o.text))).getD ((xs.length:Int)-1).toNat op0).vk),i6 (((xs.set ((xs.length:Int)-1).toNat (setT (xs.getD ((xs.length:Int)-1).toNat op0) (((xs.getD ((xs.length:Int)-1).toNat op0).text)++o.text))).getD ((xs.length:Int)-1).toNat op0).vn),sT (((xs.set ((xs.length:Int)-1).toNat (setT (xs.getD ((xs.length:Int)-1).toNat op0) (((xs.getD ((xs.length:Int)-1).toNat op0).text)++o.text))).getD ((xs.length:Int)-1).toNat op0).vt),i6 (((xs.set ((xs.length:Int)-1).toNat (setT (xs.getD ((xs.length:Int)-1).toNat op0) (((xs.getD ((xs.length:Int)-1).toNat op0).text)++o.text))).getD ((xs.length:Int)-1).toNat op0).count),.slice B90 (((xs.set ((xs.length:Int)-1).toNat (setT (xs.getD ((xs.length:Int)-1).toNat op0) (((xs.getD ((xs.length:Int)-1).toNat op0).text)++o.text))).getD ((xs.length:Int)-1).toNat op0).attrs.length) c91]:=c89
   replace l92:((xs.set ((xs.length:Int)-1).toNat (setT (xs.getD ((xs.length:Int)-1).toNat op0) (((xs.getD ((xs.length:Int)-1).toNat op0).text)++o.text))).getD ((xs.length:Int)-1).toNat op0).attrs.length≤c91:=l92
   replace C93:kAttr.C W0 B90 (((xs.set ((xs.length:Int)-1).toNat (setT (xs.getD ((xs.length:Int)-1).toNat op0) (((xs.getD ((xs.length:Int)-1).toNat op0).text)++o.text))).getD ((xs.length:Int)-1).toNat op0).attrs.length) ((xs.set ((xs.length:Int)-1).toNat (setT (xs.getD ((xs.length:Int)-1).toNat op0) (((xs.getD ((xs.length:Int)-1).toNat op0).text)++o.text))).getD ((xs.length:Int)-1).toNat op0).attrs:=C93
   refine XA_runC (fuel':=1) [9,10] [(62,.idx ad87)] [.pointer (some (ad87.add (((xs.length:Int)-1).toNat*7))),.pointer (some ((ad87.add (((xs.length:Int)-1).toNat*7)).add 5))] (tf 11 1) [(63,.pointer (some ((ad87.add (((xs.length:Int)-1).toNat*7)).add 5)))] [53,55] [A=some ad87,(0:Int)≤(xs.length:Int)-1,(xs.length:Int)-1<(xs.length:Int)] ⟨a88,(by omega),(by omega),trivial⟩ ?_
   refine XA_act (fuel':=0) 11 (tf 12 0) _ rfl (by kernel_rfl) rfl (by kernel_rfl) rfl ?_
   refine XL_mixCount rfl rfl rfl (i:=((xs.length:Int)-1)) ((((xs.set ((xs.length:Int)-1).toNat (setT (xs.getD ((xs.length:Int)-1).toNat op0) (((xs.getD ((xs.length:Int)-1).toNat op0).text)++o.text))).getD ((xs.length:Int)-1).toNat op0).count)+o.count) (by kernel_rfl) a88 (MixK.below m73 b78) (by omega) (by omega) (by kernel_rfl) (fun w94 m95 g96 l97=>?_)
   refine nl (XA_done (by kernel_rfl) ?_)
   refine sg (xe0 2 [(4,.slice A xs.length c)] ?_)
   refine nl (X_ret (rj [.slice A xs.length c] hR_ ?_))
   have hpi:=push_in (xs:=xs) (o:=o) (by omega) ⟨by omega,by omega,by first|(exact of_decide_eq_true (by assumption))|assumption⟩
   rw[←hpi]
   exact⟨A,c,by rw[List.length_set,List.length_set]; rfl,by simpa only[List.length_set] using m95,(World.grownBy.trans (World.grownBy.trans (World.grownBy.trans (grown_of_below (bt (bt (bt b2 b7) b53) b56) _) g74) (grown_of_below b78 _)) g96),.inl rfl⟩
  rw[show (decide ((xs.getD ((xs.length:Int)-1).toNat op0).attrs=o.attrs):Bool)=false from by simpa using c54]
  refine XA_pureC (fuel':=0) [28,29] [] [bT,bT] (tf 30 0) [(37,bT)] [26,32,34,35] (fun w_=>[]) (fun w_=>trivial) ?_
  refine XA_done (by kernel_rfl) ?_
  refine ct (sg (xwe 3 [(39,.load (.agg (o7A o (.slice D o.attrs.length d))))] [(38,.slice A xs.length c),(40,.slice (some ⟨w52.heap.size,0,none⟩) 1 1)] (w52.alloc (.cells (o7A o (.slice D o.attrs.length d)) 102)) [la 102 (⟨w.heap.size,0,none⟩) (.agg (o7A o (.slice D o.attrs.length d))) w52] ⟨loadsB rfl rfl (Blk.below k3 (bt b7 b53)) 0 ⟨by kernel_rfl,by kernel_rfl⟩,trivial⟩ ?_))
  obtain⟨w98,w102,b99,k100,z101⟩:=new_world w52 (o7A o (.slice D o.attrs.length d)) 102
  rw[w102]
  have R103:=Kd.R_litB (kRaw 7) (W:=w52) (e:=102) (cs:=(o7A o (.slice D o.attrs.length d))) [(o7L o (.slice D o.attrs.length d))] k100 (rawL1 _ rfl (by kernel_rfl)) (Nat.le_of_ble_eq_true (by kernel_rfl))
  refine XL_appendMixH (d:=kOp) (W0:=W0) (B:=bs) (c':=1) (m:=1) op0 rfl rfl rfl 102 (.agg #[i6 0,s0,i6 0,i6 0,s0,i6 0,.slice none 0 0]) 88 Tryz.underlying22 info102 rfl (by decide) (by omega) xs [o] [(o7L o (.slice D o.attrs.length d))] (by kernel_rfl) (MixK.below hx (bt (bt (bt b2 b7) b53) b99)) (Kd.R_C R103) rfl (fun i_ hi_=>by have h_:i_=0:=(by omega); subst h_; exact kOp_K_of (x:=o) hDl hD) (Nat.le_trans hB ((bt (bt (bt b2 b7) b53) b99)).size) (by omega) ?_
  intro A104 c105 w106 m107 g108 l109 hat110
  refine xe0 1 [(4,.slice A104 ((xs++[o]).length) c105)] ?_
  refine nl (X_ret (rj [.slice A104 ((xs++[o]).length) c105] hR_ ?_))
  rw[push_out (xs:=xs) (o:=o) (by first|exact .inl (by omega)|exact .inr (fun h_=>by obtain⟨h1_,h2_,h3_⟩:=h_; first|omega|simp_all))]
  exact⟨_,_,rfl,m107,(World.grownBy.trans (grown_of_below (bt (bt (bt b2 b7) b53) b99) _) g108),hat110.imp_right fun⟨b_,h1_,h2_⟩=>⟨b_,h1_,Nat.le_trans ((bt (bt (bt b2 b7) b53) b99)).size h2_⟩⟩
 refine XA_run (fuel':=3) [11,12,13,14,15,16,17,18,19,20,21,22,23,24,25,26] [(19,.eq bT)] [bT,bT,bT,undef,undef,undef,bT,bT,undef,undef,undef,undef,undef,undef,undef,undef] (tf 27 3) [(0,.slice A xs.length c),(3,pw w.heap.size 0),(5,i6 (xs.length:Int)),(26,bT),(32,undef),(34,undef)] [Value.bool ((xs.getD ((xs.length:Int)-1).toNat op0).kind !=o.kind)=bT] ⟨congrArg Value.bool (bneT (c30)),trivial⟩ ?_
 refine XA_pureC (fuel':=2) [27] [] [undef] (tf 28 2) [(35,undef)] [32,34] (fun w_=>[]) (fun w_=>trivial) ?_
 refine XA_pureC (fuel':=0) [28,29] [] [undef,bT] (tf 30 0) [(37,bT)] [26,35] (fun w_=>[]) (fun w_=>trivial) ?_
 refine XA_done (by kernel_rfl) ?_
 refine ct (sg (xwe 3 [(39,.load (.agg (o7A o (.slice D o.attrs.length d))))] [(38,.slice A xs.length c),(40,.slice (some ⟨wd6.heap.size,0,none⟩) 1 1)] (wd6.alloc (.cells (o7A o (.slice D o.attrs.length d)) 102)) [la 102 (⟨w.heap.size,0,none⟩) (.agg (o7A o (.slice D o.attrs.length d))) wd6] ⟨loadsB rfl rfl (Blk.below k3 b7) 0 ⟨by kernel_rfl,by kernel_rfl⟩,trivial⟩ ?_))
 obtain⟨w111,w115,b112,k113,z114⟩:=new_world wd6 (o7A o (.slice D o.attrs.length d)) 102
 rw[w115]
 have R116:=Kd.R_litB (kRaw 7) (W:=wd6) (e:=102) (cs:=(o7A o (.slice D o.attrs.length d))) [(o7L o (.slice D o.attrs.length d))] k113 (rawL1 _ rfl (by kernel_rfl)) (Nat.le_of_ble_eq_true (by kernel_rfl))
 refine XL_appendMixH (d:=kOp) (W0:=W0) (B:=bs) (c':=1) (m:=1) op0 rfl rfl rfl 102 (.agg #[i6 0,s0,i6 0,i6 0,s0,i6 0,.slice none 0 0]) 88 Tryz.underlying22 info102 rfl (by decide) (by omega) xs [o] [(o7L o (.slice D o.attrs.length d))] (by kernel_rfl) (MixK.below hx (bt (bt b2 b7) b112)) (Kd.R_C R116) rfl (fun i_ hi_=>by have h_:i_=0:=(by omega); subst h_; exact kOp_K_of (x:=o) hDl hD) (Nat.le_trans hB ((bt (bt b2 b7) b112)).size) (by omega) ?_
 intro A117 c118 w119 m120 g121 l122 hat123
 refine xe0 1 [(4,.slice A117 ((xs++[o]).length) c118)] ?_
 refine nl (X_ret (rj [.slice A117 ((xs++[o]).length) c118] hR_ ?_))
 rw[push_out (xs:=xs) (o:=o) (by first|exact .inl (by omega)|exact .inr (fun h_=>by obtain⟨h1_,h2_,h3_⟩:=h_; first|omega|simp_all))]
 exact⟨_,_,rfl,m120,(World.grownBy.trans (grown_of_below (bt (bt b2 b7) b112) _) g121),hat123.imp_right fun⟨b_,h1_,h2_⟩=>⟨b_,h1_,Nat.le_trans ((bt (bt b2 b7) b112)).size h2_⟩⟩
end Go.Proofs.YtgphmfnkeolbcaaGreatDoor
