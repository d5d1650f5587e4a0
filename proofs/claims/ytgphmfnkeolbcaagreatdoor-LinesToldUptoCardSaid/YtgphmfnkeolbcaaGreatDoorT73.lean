import Derived.Test.YtgphmfnkeolbcaaGreatDoorP2
import Derived.Test.YtgphmfnkeolbcaaGreatDoorRow
import Derived.Test.YtgphmfnkeolbcaaGreatDoorT17
import Derived.Test.YtgphmfnkeolbcaaGreatDoorT5
import Derived.Test.YtgphmfnkeolbcaaGreatDoorR1
import Derived.Test.YtgphmfnkeolbcaaGreatDoorClp
import Derived.Test.YtgphmfnkeolbcaaGreatDoorP1
import Derived.Test.YtgphmfnkeolbcaaGreatDoorT16
import Derived.Test.YtgphmfnkeolbcaaGreatDoorT67
import Derived.Test.YtgphmfnkeolbcaaGreatDoorIn
import Derived.Test.YtgphmfnkeolbcaaGreatDoorMixP
/- What vellumspare.Attrs, Copy, Kept and Spoil do. Conditions: sizes. -/
set_option linter.unusedVariables false
set_option linter.unusedSimpArgs false
set_option maxRecDepth 100000
namespace Go.Proofs.YtgphmfnkeolbcaaGreatDoor
open Go Go.RowKit Go.Proofs.YtgphmfnkeolbcaaGreatDoorW.PrintWords RX
theorem ent164 :Ent Tryz.prog 164:=ent_of Tryz.func164 (by kernel_rfl) rfl
theorem ent102 :Ent Tryz.prog 102:=ent_of Tryz.func102 (by kernel_rfl) rfl
theorem infoSp :(Tryz.prog.info? 102).map (fun i=>(i.zero,i.size,i.bytes))=some (some (.agg #[i6 0,s0,i6 0,i6 0,s0,i6 0,.slice none 0 0]),7,88):=by kernel_rfl
theorem spAttrs_any (A:Option Addr)(c:Nat)(xs:List At)(w:World)(hx:kAttr.C w A xs.length xs)(hn:xs.length≤100000000):Calls Tryz.prog 164 #[.slice A xs.length c] w fun e w'=>∃ A' c',e=.returned (.slice A' xs.length c')∧kAttrsS.M w' w.heap.size (OkFrom w.heap.size) xs [.slice A' xs.length c']∧Below w.heap.size w w':=by
 have hpl:xs.length≤9223372036854775807:=hx.2.1
 refine en Tryz.func164 rfl 15 [(0,aL A xs c)] (fun R_ hR_=>?_)
 refine sg (xe0 1 [(0,aL A xs c)] ?_)
 refine nl (sq (sg (xr0 2 [(4,i6 (xs.length:Int))] [] ?_)))
 by_cases c1:(xs.length:Int)=0
 ·refine xr1 1 [(5,.eq bT)] [(5,bT)] [4] (bE c1) ?_
  refine nl (ct (sg (xe0 1 [(2,.slice none 0 0)] ?_)))
  refine nl (X_ret (rj [.slice none 0 0] hR_ ?_))
  have h0:xs=[]:=List.eq_nil_of_length_eq_zero (by omega)
  subst h0
  exact⟨none,0,rfl,⟨none,0,rfl,.inl ⟨rfl,rfl,rfl⟩⟩,(Below.refl _ _)⟩
 refine xr1 1 [(5,.eq bF)] [(5,bF)] [4] (bN c1) ?_
 refine nl (cf (sk (sg (xw 1 [] [(6,.slice (some ⟨w.heap.size,0,none⟩) 0 0)] [5] (w.alloc (.cells #[] 57)) [] trivial ?_))))
 obtain⟨w2,hw6,b3,k4,z5⟩:=new_world w #[] 57
 rw[hw6]
 refine xr0 1 [(7,aL A xs c)] [] ?_
 have r7:=Kd.R_litB kAttr (W:=w) (e:=57) (cs:=#[]) [] k4 (repsAttr []) (Nat.le_of_ble_eq_true (by kernel_rfl))
 refine XL_appendAll (c':=c) kAttr rfl rfl rfl w.heap.size 57 (.agg #[s0,i6 0,i6 0,s0]) 48 Tryz.underlying49 info57 rfl (by decide) (by omega) ([]) xs (by kernel_rfl) r7 (Kd.C_below hx b3) kAttr_KM (b3).size (by first|omega|(simp; omega)) ?_
 intro A8 c9 w10 r11 hc12 g13 l14 a15
 have e16:([]++xs)=xs:=List.nil_append _
 rw[e16]at r11 ⊢
 refine xw 2 [] [(8,aL A8 xs c9),(10,.slice (some ⟨w10.heap.size,0,none⟩) 1 1)] [6,7] (w10.alloc (.cells #[sT (⟨#[115,112,97,114,101]⟩:ByteArray),i6 0,i6 0,s0] 57)) [] trivial ?_
 obtain⟨w17,w21,b18,k19,z20⟩:=new_world w10 #[sT (⟨#[115,112,97,114,101]⟩:ByteArray),i6 0,i6 0,s0] 57
 rw[w21]
 rw[←w21]
 refine XL_append kAttr rfl rfl rfl w.heap.size 57 (.agg #[s0,i6 0,i6 0,s0]) 48 Tryz.underlying49 info57 rfl (by decide) (by omega) xs ((⟨#[115,112,97,114,101]⟩:ByteArray),0,0,ByteArray.empty) [sT (⟨#[115,112,97,114,101]⟩:ByteArray),i6 0,i6 0,s0] (fun _=>False) (by kernel_rfl) (kAttr_M _ _ _ _) (fun _ h=>h.elim) r11 ((bgo b3 g13 l14 (Nat.le_refl _))).size (by omega) ?_
 intro A22 c23 w24 r25 c26 g27 l28 a29
 have C30:kAttr.C w24 A22 xs.length xs:=by have h:=RX.Kd.C_take (m:=xs.length) (Kd.R_C r25) (by first|omega|(simp; done)|(simp; omega)); rwa [show (List.take xs.length (xs++[((⟨#[115,112,97,114,101]⟩:ByteArray),0,0,ByteArray.empty)]))=xs from List.take_left ..]at h
 refine xe 4 [(14,.as (aL A22 xs c23))] [(2,aL A22 xs c23)] [RunsAs Tryz.prog [(11,aL A22 (xs++[((⟨#[115,112,97,114,101]⟩:ByteArray),0,0,ByteArray.empty)]) c23),(13,i6 (xs.length:Int))] (Go.Op.slice 49 (Go.Operand.tmp 11) none (some (Go.Operand.tmp 13)) none) 49 (aL A22 xs c23) w24] ⟨runs_slice_h (h:=(xs.length:Int)) rfl rfl rfl rfl (by omega) (by have h:=c26; (try simp only[List.length_append,List.length_cons,List.length_nil]at h); omega),trivial⟩ ?_
 refine nl (X_ret (rj [aL A22 xs c23] hR_ ?_))
 have B31:Below w.heap.size w w24:=(bgo (bgo b3 g13 l14 (Nat.le_refl _)) g27 l28 (Nat.le_refl _))
 have hR:=r25
 rw[List.length_append,List.length_singleton]at hR
 exact⟨_,_,rfl,⟨_,_,rfl,.inr ⟨_,rfl,Kd.R_low hR (Nat.le_refl _)⟩⟩,B31⟩
set_option maxHeartbeats 2000000 in
theorem spCopy_any (A:Option Addr)(c:Nat)(xs:List OpA)(w:World)(hx:kOp.C w A xs.length xs)(hn:xs.length≤1100000)(hz:∀ i,i<xs.length→opSz (xs.getD i op0)):Calls Tryz.prog 102 #[.slice A xs.length c] w fun e w'=>∃ A' c',e=.returned (.slice A' xs.length c')∧xs.length+1≤c'∧kOpS.R 102 w' w.heap.size (OkFrom w.heap.size) (.slice A' (xs.length+1) c') (xs++[sp77])∧Below w.heap.size w w':=by
 have hpl:xs.length≤9223372036854775807:=hx.2.1
 refine en Tryz.func102 rfl 29 [(0,aL A xs c)] (fun R_ hR_=>?_)
 refine sg (xe0 1 [(0,aL A xs c)] ?_)
 refine nl (sg (xw 1 [] [(6,.slice (some ⟨w.heap.size,0,none⟩) 0 0)] [] (w.alloc (.cells #[] 102)) [] trivial ?_))
 obtain⟨w1,w5,b2,k3,z4⟩:=new_world w #[] 102
 rw[w5]
 refine xr0 1 [(3,.slice (some ⟨w.heap.size,0,none⟩) 0 0)] [6] ?_
 refine nl (sq (sg (xr0 3 [(7,aL A xs c),(8,i6 (xs.length:Int)),(9,i6 0)] [] ?_)))
 refine nl (X_block ?_)
 have r6:=Kd.R_litB kOpS (W:=w) (e:=102) (cs:=#[]) [] k3 (repsOpS0 [] (fun _ h=>by cases h)) (Nat.le_of_ble_eq_true (by kernel_rfl))
 refine X_loop (ι:=Nat×Option Addr×Nat×List OpA) (fun⟨i,A3,c3,zs3⟩=>[(0,aL A xs c),(3,aL A3 zs3 c3),(7,aL A xs c),(8,i6 (xs.length:Int)),(9,i6 (i:Int))]) (fun⟨i,A3,c3,zs3⟩ wl=>i≤xs.length∧zs3=xs.take i∧kOpS.R 102 wl w.heap.size (OkFrom w.heap.size) (aL A3 zs3 c3) zs3∧w.heap.size≤wl.heap.size∧Below w.heap.size w wl) (fun⟨i,A3,c3,zs3⟩=>xs.length-i) (0,(some ⟨w.heap.size,0,none⟩),0,[]) ⟨by omega,rfl,r6,(b2).size,b2⟩ (by kernel_rfl) ?_
 rintro⟨i,A3,c3,zs3⟩ wl ⟨hi,he3,hr3,hle3,HB⟩
 have hzl:zs3.length=min i xs.length:=by rw[he3,List.length_take]
 have hatl:=fun(h_:i<xs.length)=>(hz i h_).2.2.1
 refine sq (X_region ?_)
 by_cases c7:(i:Int)<(xs.length:Int)
 ·refine xr1 1 [(10,.eq bT)] [(10,bT)] [] (dT c7) ?_
  refine nl (sq (ct (sk (sq (bk (sq (X_region ?_)))))))
  obtain⟨ad8,B11,c12,a9,c10,l13,C14⟩:=Kd.atOp (Kd.C_below hx HB) (i:=(i:Int)) (by omega) (by omega)
  replace c10:CellsAt wl (ad8.add ((i:Int).toNat*7)) (o7L (xs.getD i op0) (aL B11 (xs.getD i op0).attrs c12)):=c10
  replace l13:(xs.getD i op0).attrs.length≤c12:=l13
  replace C14:kAttr.C wl B11 ((xs.getD i op0).attrs.length) (xs.getD i op0).attrs:=C14
  refine xw 3 [(11,.idx ad8),(12,.load (.agg (o7A (xs.getD i op0) (aL B11 (xs.getD i op0).attrs c12))))] [(5,pw wl.heap.size 0),(12,.agg (o7A (xs.getD i op0) (aL B11 (xs.getD i op0).attrs c12)))] [10] (wl.alloc (.cells #[i6 0,s0,i6 0,i6 0,s0,i6 0,.slice none 0 0] 102)) [A=some ad8,(0:Int)≤(i:Int),(i:Int)<(xs.length:Int),la 102 (ad8.add ((i:Int).toNat*7)) (.agg (o7A (xs.getD i op0) (aL B11 (xs.getD i op0).attrs c12))) wl] ⟨a9,(by omega),(by omega),loadsE rfl rfl c10 0 ⟨by kernel_rfl,by kernel_rfl⟩,trivial⟩ ?_
  obtain⟨w15,w19,b16,k17,z18⟩:=new_world wl #[i6 0,s0,i6 0,i6 0,s0,i6 0,.slice none 0 0] 102
  rw[w19]
  refine xst (.agg (o7A (xs.getD i op0) (aL B11 (xs.getD i op0).attrs c12))) k17 0 (o7A (xs.getD i op0) (aL B11 (xs.getD i op0).attrs c12)) (fun w20 g21 k22 z23=>?_)
  refine nl (sg (xr1 2 [(14,.load (aL B11 (xs.getD i op0).attrs c12))] [(14,aL B11 (xs.getD i op0).attrs c12)] [12] (lc 49 k22 6) ?_))
  refine xc 164 ent164 [aL B11 (xs.getD i op0).attrs c12] (spAttrs_any _ _ ((xs.getD i op0).attrs) _ (Kd.C_below C14 (bg b16 g21 (Nat.le_refl _))) (by omega)) ?_
  rintro e w26 ⟨A24,c25,rfl,M28,b27⟩; refine⟨_,rfl,?_⟩
  refine xr0 1 [(15,aL A24 (xs.getD i op0).attrs c25),(16,pw wl.heap.size 6)] [14] ?_
  refine xst (aL A24 (xs.getD i op0).attrs c25) (Blk.below k22 b27) 6 (o7A (xs.getD i op0) (aL A24 (xs.getD i op0).attrs c25)) (fun w29 g30 k31 z32=>?_)
  refine nl (rg (xw 3 [(18,.load (.agg (o7A (xs.getD i op0) (aL A24 (xs.getD i op0).attrs c25))))] [(17,aL A3 zs3 c3),(19,.slice (some ⟨w29.heap.size,0,none⟩) 1 1)] [3,5,15,16] (w29.alloc (.cells (o7A (xs.getD i op0) (aL A24 (xs.getD i op0).attrs c25)) 102)) [la 102 (⟨wl.heap.size,0,none⟩) (.agg (o7A (xs.getD i op0) (aL A24 (xs.getD i op0).attrs c25))) w29] ⟨loadsB rfl rfl k31 0 ⟨by kernel_rfl,by kernel_rfl⟩,trivial⟩ ?_))
  obtain⟨w33,w37,b34,k35,z36⟩:=new_world w29 (o7A (xs.getD i op0) (aL A24 (xs.getD i op0).attrs c25)) 102
  rw[w37]
  have B41:Below wl.heap.size wl w29:=(bg (bt (bg b16 g21 (Nat.le_refl _)) b27) g30 (Nat.le_refl _))
  obtain⟨okp38,M39,hok40⟩:=Kd.M_apart (Kd.M_past M28 g30 (Nat.lt_of_lt_of_le (Blk.lt k17) g21.size)) ((bg (bt HB b16) g21 hle3)).size (Kd.R_below hr3 B41) (by decide)
  rw[←w37]
  have B50:Below w.heap.size w w29:=(bg (bt (bg (bt HB b16) g21 hle3) b27) g30 hle3)
  refine XL_append kOpS rfl rfl rfl w.heap.size 102 (.agg #[i6 0,s0,i6 0,i6 0,s0,i6 0,.slice none 0 0]) 88 Tryz.underlying22 infoSp rfl (by decide) (by omega) zs3 (⟨(xs.getD i op0).kind,(xs.getD i op0).text,(xs.getD i op0).vk,(xs.getD i op0).vn,(xs.getD i op0).vt,(xs.getD i op0).count,(xs.getD i op0).attrs⟩:OpA) (o7L (xs.getD i op0) (aL A24 (xs.getD i op0).attrs c25)) okp38 (by kernel_rfl) (kOpS_M (x:=(⟨(xs.getD i op0).kind,(xs.getD i op0).text,(xs.getD i op0).vk,(xs.getD i op0).vn,(xs.getD i op0).vt,(xs.getD i op0).count,(xs.getD i op0).attrs⟩:OpA)) M39) hok40 (Kd.R_below hr3 B41) (B50).size (by first|omega|(simp; omega)) ?_
  intro A42 c43 w44 r45 c46 g47 l48 a49
  have e51:(zs3++[(⟨(xs.getD i op0).kind,(xs.getD i op0).text,(xs.getD i op0).vk,(xs.getD i op0).vn,(xs.getD i op0).vt,(xs.getD i op0).count,(xs.getD i op0).attrs⟩:OpA)])=(xs.take (i+1)):=by rw[he3]; exact(take_snocD op0 xs i (by omega)).symm
  rw[e51]at r45 ⊢
  refine xe0 1 [(0,aL A xs c),(3,aL A42 (xs.take (i+1)) c43),(7,aL A xs c),(8,i6 (xs.length:Int)),(9,nv i)] ?_
  refine nl (rg (xr1 2 [(21,.eq (i6 ((i:Int)+1)))] [(9,i6 ((i:Int)+1))] [] (w6 ((i:Int)+1)) ?_))
  refine nl ?_
  refine⟨(i+1,A42,c43,(xs.take (i+1))),by kernel_rfl,?_,?_⟩
  ·exact⟨by omega,rfl,r45,((bgo B50 g47 l48 (Nat.le_refl _))).size,(bgo B50 g47 l48 (Nat.le_refl _))⟩
  (try dsimp only); omega
 refine xr1 1 [(10,.eq bF)] [(10,bF)] [] (dF c7) ?_
 refine nl (sq (cf (X_exit (sg (xw 3 [] [(22,aL A3 zs3 c3),(24,.slice (some ⟨wl.heap.size,0,none⟩) 1 1)] [3,7,8,9,10] (wl.alloc (.cells #[i6 77,s0,i6 0,i6 0,s0,i6 0,.slice none 0 0] 102)) [] trivial ?_)))))
 obtain⟨w52,w56,b53,k54,z55⟩:=new_world wl #[i6 77,s0,i6 0,i6 0,s0,i6 0,.slice none 0 0] 102
 rw[w56]
 rw[←w56]
 refine XL_append kOpS rfl rfl rfl w.heap.size 102 (.agg #[i6 0,s0,i6 0,i6 0,s0,i6 0,.slice none 0 0]) 88 Tryz.underlying22 infoSp rfl (by decide) (by omega) zs3 (⟨77,ByteArray.empty,0,0,ByteArray.empty,0,[]⟩:OpA) [i6 77,s0,i6 0,i6 0,s0,i6 0,.slice none 0 0] (fun _=>False) (by kernel_rfl) (kOpS_M0 (⟨77,ByteArray.empty,0,0,ByteArray.empty,0,[]⟩:OpA) rfl) (fun _ h=>h.elim) hr3 hle3 (by first|omega|(simp; omega)) ?_
 intro A57 c58 w59 r60 c61 g62 l63 a64
 have C65:kOpS.C w59 A57 xs.length xs:=by have h:=RX.Kd.C_take (m:=xs.length) (Kd.R_C r60) (by first|omega|(simp; done)|(simp; omega)); rwa [show (List.take xs.length (zs3++[(⟨77,ByteArray.empty,0,0,ByteArray.empty,0,[]⟩:OpA)]))=xs from by rw[show zs3=xs from by rw[he3]; exact List.take_of_length_le (by omega)]; exact List.take_left ..]at h
 refine xe 4 [(28,.as (aL A57 xs c58))] [(2,aL A57 xs c58)] [RunsAs Tryz.prog [(25,aL A57 (zs3++[(⟨77,ByteArray.empty,0,0,ByteArray.empty,0,[]⟩:OpA)]) c58),(27,i6 (xs.length:Int))] (Go.Op.slice 22 (Go.Operand.tmp 25) none (some (Go.Operand.tmp 27)) none) 22 (aL A57 xs c58) w59] ⟨runs_slice_h (h:=(xs.length:Int)) rfl rfl rfl rfl (by omega) (by have h:=c61; (try simp only[List.length_append,List.length_cons,List.length_nil]at h); omega),trivial⟩ ?_
 refine nl (X_ret (rj [aL A57 xs c58] hR_ ?_))
 have hxi:xs.take i=xs:=List.take_of_length_le (by omega)
 have hR:=r60
 have hcp:=c61
 rw[hxi]at he3
 subst he3
 rw[List.length_append,List.length_singleton]at hR hcp
 exact⟨_,_,rfl,hcp,Kd.R_low hR (Nat.le_refl _),(bgo HB g62 l63 (Nat.le_refl _))⟩
theorem ent35 :Ent Tryz.prog 35:=ent_of Tryz.func35 (by kernel_rfl) rfl
theorem ent34 :Ent Tryz.prog 34:=ent_of Tryz.func34 (by kernel_rfl) rfl
theorem made_any (A:Option Addr)(c:Nat)(xs:List OpA)(w:World)(hx:kOp.C w A xs.length xs)(hxc:xs.length≤c)(hn:xs.length≤500000)(hz:∀ i,i<xs.length→opSz (xs.getD i op0))(ht:B.txS xs≤50000000)(hT:Tabs w)(es:List Addr)(hE:ErrsO w es):Calls Tryz.prog 35 #[.slice A xs.length c] w fun e w'=>Below w.heap.size w w'∧(((B.bOf xs).2=0∧∃ d A1 c1 A2 c2,e=.returned (.tuple #[pw d 0,.slice A2 (B.can xs).length c2,bT])∧DeltaR w' w.heap.size d A1 c1 (B.can xs)∧MixK kOp op0 102 w.heap.size w w' A2 (B.can xs).length c2 (B.can xs))∨((B.bOf xs).2≠0∧e=.returned (.tuple #[.pointer none,.slice none 0 0,bF]))):=by
 refine en Tryz.func35 rfl 31 [(0,aL A xs c)] (fun R_ hR_=>?_)
 refine sg (xe0 3 [(0,aL A xs c)] ?_)
 refine nl (sg (xr0 1 [(12,aL A xs c)] [] ?_))
 refine xc 101 ent101 [aL A xs c] (r6of_any _ _ xs w _ (Below.refl _ _) hx (by omega) hz ht hT) ?_
 rintro e w1 ⟨b2,⟨hb0_3,A4,c5,rfl,m6⟩|⟨hb0_3,rfl⟩⟩
 ·refine⟨_,rfl,?_⟩
  refine xr0 7 [(5,aL A4 (B.can xs) c5),(7,i6 0)] [12,13] ?_
  refine nl (sq (sg (xr0 2 [(18,bF)] [7] ?_)))
  refine nl (cf (sk (sg (xr0 1 [(20,aL A xs c)] [0,18] ?_))))
  refine xc 102 ent102 [aL A xs c] (spCopy_any _ _ xs _ (Kd.C_below hx b2) (by omega) hz) ?_
  rintro e w11 ⟨A7,c8,rfl,c9,R10,b12⟩; refine⟨_,rfl,?_⟩
  have S13:=Kd.R_C R10
  have C14:kOp.C w11 A7 xs.length xs:=kOpS_C (kOpS_init S13)
  refine xc 65 ent65 [aL A7 xs c8] (bof_any _ _ xs _ C14 (Nat.le_of_succ_le c9) (by omega) hz ht (hT.below (bt b2 b12)) es (hE.below (bt b2 b12))) ?_
  rintro e w15 ⟨b16,⟨hb0_17,d,A18,c19,rfl,d20⟩|⟨hb0_17,rfl⟩⟩
  ·refine⟨_,rfl,?_⟩
   refine xr0 7 [(8,pw d 0),(10,.nilIface)] [20,21,22] ?_
   refine nl (sq (sg (xe0 2 [(5,aL A4 (B.can xs) c5),(8,pw d 0),(27,bF)] ?_)))
   refine nl (cf (sk (sg (xe0 5 [(2,pw d 0),(3,aL A4 (B.can xs) c5),(4,bT)] ?_))))
   refine nl (X_ret (rj [pw d 0,.slice A4 ((B.can xs).length) c5,bT] hR_ ?_))
   exact⟨(bt (bt b2 b12) b16),.inl ⟨hb0_3,d,A18,c19,A4,c5,rfl,⟨Nat.le_trans ((bt b2 b12)).size d20.1,d20.2.1,Kd.R_low d20.2.2 ((bt b2 b12)).size⟩,MixK.low (MixK.below m6 (bt b12 b16)) (Nat.le_refl _)⟩⟩
  exact absurd hb0_3 hb0_17
 refine⟨_,rfl,?_⟩
 refine xr0 7 [(5,.slice none 0 0),(7,i6 ((B.bOf xs).2:Int))] [12,13] ?_
 refine nl (sq (sg (xr0 1 [(17,i6 ((B.bOf xs).2:Int))] [7] ?_)))
 by_cases c21:((B.bOf xs).2:Int)=0
 ·exfalso; omega
 refine xr1 1 [(18,.eq bT)] [(18,bT)] [17] (nT c21) ?_
 refine nl (ct (sg (xe0 3 [(2,.pointer none),(3,.slice none 0 0),(4,bF)] ?_)))
 refine nl (X_ret (rj [.pointer none,.slice none 0 0,bF] hR_ ?_))
 exact⟨b2,.inr ⟨hb0_3,rfl⟩⟩
def hvS :List OpA→Nat
 | []=>0
 | o::r=>(1+o.text.size+o.attrs.length)+hvS r
theorem hvS_append :∀ xs ys:List OpA,hvS (xs++ys)=hvS xs+hvS ys
 | [],ys=>by simp[hvS]
 | o::r,ys=>by simp only[List.cons_append,hvS,hvS_append r ys]; omega
theorem hvS_take {xs:List OpA}{i:Nat}(h:i<xs.length):hvS (xs.take (i+1))=hvS (xs.take i)+(1+(xs.getD i op0).text.size+(xs.getD i op0).attrs.length):=by rw[take_snocD op0 xs i h,hvS_append]; simp[hvS]
theorem hvS_bd :∀ xs:List OpA,B.txS xs≤hvS xs∧xs.length≤hvS xs
 | []=>⟨Nat.le_refl _,Nat.le_refl _⟩
 | o::r=>by
  have:=hvS_bd r
  simp only[B.txS,hvS,List.length_cons]
  omega
theorem heavy_any (A:Option Addr)(c:Nat)(xs:List OpA)(w:World)(hx:kOp.C w A xs.length xs)(hn:xs.length≤1100000)(hz:∀ i,i<xs.length→opSz (xs.getD i op0)):Rt 34 #[.slice A xs.length c] w (.bool (decide (6000<hvS xs))):=by
 have hpl:xs.length≤9223372036854775807:=hx.2.1
 refine en Tryz.func34 rfl 25 [(0,aL A xs c)] (fun R_ hR_=>?_)
 refine sg (xe0 1 [(0,aL A xs c)] ?_)
 refine nl (sg (xr0 1 [(3,i6 0)] [] ?_))
 refine nl (sq (sg (xr0 3 [(6,aL A xs c),(7,i6 (xs.length:Int)),(8,i6 0)] [0] ?_)))
 refine nl (bk (X_loop (ι:=Nat) (fun i=>[(3,i6 (hvS (xs.take i):Int)),(6,aL A xs c),(7,i6 (xs.length:Int)),(8,i6 (i:Int))]) (fun i wl=>i≤xs.length∧hvS (xs.take i)≤i*70000000∧Below w.heap.size w wl) (fun i=>xs.length-i) 0 ⟨Nat.zero_le _,Nat.le_refl _,(Below.refl _ _)⟩ (by kernel_rfl) ?_))
 rintro i wl ⟨hi,hsz,HB⟩
 have hzi:=fun(h_:i<xs.length)=>hz i h_
 have hlt:=fun(h_:i<xs.length)=>hvS_take h_
 refine sq (X_region ?_)
 by_cases c_1:(i:Int)<(xs.length:Int)
 ·refine xr1 1 [(9,.eq bT)] [(9,bT)] [] (dT c_1) ?_
  refine nl (sq (ct (sk (sq (bk (sq (X_region ?_)))))))
  obtain⟨ad2,B5,c6,a3,c4,l7,C8⟩:=Kd.atOp (Kd.C_below hx HB) (i:=(i:Int)) (by omega) (by omega)
  replace c4:CellsAt wl (ad2.add ((i:Int).toNat*7)) (o7L (xs.getD i op0) (aL B5 (xs.getD i op0).attrs c6)):=c4
  replace l7:(xs.getD i op0).attrs.length≤c6:=l7
  replace C8:kAttr.C wl B5 ((xs.getD i op0).attrs.length) (xs.getD i op0).attrs:=C8
  refine xw 3 [(10,.idx ad2),(11,.load (.agg (o7A (xs.getD i op0) (aL B5 (xs.getD i op0).attrs c6))))] [(5,pw wl.heap.size 0),(11,.agg (o7A (xs.getD i op0) (aL B5 (xs.getD i op0).attrs c6)))] [9] (wl.alloc (.cells #[i6 0,s0,i6 0,i6 0,s0,i6 0,.slice none 0 0] 102)) [A=some ad2,(0:Int)≤(i:Int),(i:Int)<(xs.length:Int),la 102 (ad2.add ((i:Int).toNat*7)) (.agg (o7A (xs.getD i op0) (aL B5 (xs.getD i op0).attrs c6))) wl] ⟨a3,(by omega),(by omega),loadsE rfl rfl c4 0 ⟨by kernel_rfl,by kernel_rfl⟩,trivial⟩ ?_
  obtain⟨w9,w13,b10,k11,z12⟩:=new_world wl #[i6 0,s0,i6 0,i6 0,s0,i6 0,.slice none 0 0] 102
  rw[w13]
  refine xst (.agg (o7A (xs.getD i op0) (aL B5 (xs.getD i op0).attrs c6))) k11 0 (o7A (xs.getD i op0) (aL B5 (xs.getD i op0).attrs c6)) (fun w14 g15 k16 z17=>?_)
  refine nl (rg (xr0 1 [(12,i6 (hvS (xs.take i):Int))] [3,11] ?_))
  have hszi:=hzi (by omega)
  have hs1:=hszi.1
  have hs3:=hszi.2.2.1
  have hlg:=hlt (by omega)
  refine xr 10 [(14,.load (sT ((xs.getD i op0).text))),(16,.eq (i6 (1+(((xs.getD i op0).text).size:Int)))),(18,.load (aL B5 (xs.getD i op0).attrs c6)),(20,.eq (i6 ((1+(((xs.getD i op0).text).size:Int))+((xs.getD i op0).attrs.length:Int)))),(21,.eq (i6 (hvS (xs.take (i+1)):Int)))] [(3,i6 (hvS (xs.take (i+1)):Int))] [5,12] [_,_,_,_,i6 (IntKind.i64.wrap ((hvS (xs.take i):Int)+((1+(((xs.getD i op0).text).size:Int))+((xs.getD i op0).attrs.length:Int))))=i6 (hvS (xs.take (i+1)):Int)] ⟨lc 9 k16 1,w6 (1+(((xs.getD i op0).text).size:Int)),lc 49 k16 6,w6 ((1+(((xs.getD i op0).text).size:Int))+((xs.getD i op0).attrs.length:Int)),(by rw[show (hvS (xs.take i):Int)+((1+((xs.getD i op0).text.size:Int))+((xs.getD i op0).attrs.length:Int))=(hvS (xs.take (i+1)):Int)from by omega]; exact wr_i64 (by omega) (by omega)),trivial⟩ ?_
  refine nl (rg (xr1 2 [(22,.eq (i6 ((i:Int)+1)))] [(8,i6 ((i:Int)+1))] [] (w6 ((i:Int)+1)) ?_))
  refine nl ?_
  refine⟨(i+1),by kernel_rfl,?_,?_⟩
  ·exact⟨by omega,by have h_:=hlt (by omega); omega,(bg (bt HB b10) g15 (HB).size)⟩
  (try dsimp only); omega
 refine xr1 1 [(9,.eq bF)] [(9,bF)] [] (dF c_1) ?_
 refine nl (sq (cf (X_exit (sg (xe0 1 [(23,i6 (hvS (xs.take i):Int))] ?_)))))
 by_cases c18:(hvS (xs.take i):Int)>6000
 ·refine xe1 2 [(24,.eq bT)] [(2,bT)] (dT c18) ?_
  refine nl (X_ret (rj [bT] hR_ ?_))
  have hxi:xs.take i=xs:=List.take_of_length_le (by omega)
  rw[show decide (6000<hvS xs)=true from decide_eq_true (by rw[←hxi]; omega)]
  exact⟨rfl,HB⟩
 refine xe1 2 [(24,.eq bF)] [(2,bF)] (dF c18) ?_
 refine nl (X_ret (rj [bF] hR_ ?_))
 have hxi:xs.take i=xs:=List.take_of_length_le (by omega)
 rw[show decide (6000<hvS xs)=false from decide_eq_false (by rw[←hxi]; omega)]
 exact⟨rfl,HB⟩
theorem ent33 :Ent Tryz.prog 33:=ent_of Tryz.func33 (by kernel_rfl) rfl
def lo21 :List OpA:=[⟨1,(⟨#[97,98,10,99,10]⟩:ByteArray),0,0,ByteArray.empty,0,[]⟩]
def lc21 :List CellA:=[cellR [] 97,cellR [] 98,cellR [] 10,cellR [] 99,cellR [] 10]
def lls21 :List LineA:=[⟨0,2,[],(⟨#[97,98]⟩:ByteArray)⟩,⟨3,1,[],(⟨#[99]⟩:ByteArray)⟩]
theorem lo21_can :B.can lo21=lo21:=by kernel_rfl
theorem lo21_bad :badE lo21=0:=by kernel_rfl
theorem lo21_sc :U.sc (⟨#[97,98,10,99,10]⟩:ByteArray)=[97,98,10,99,10]:=(U.utf_of (rs:=[97,98,10,99,10]) (fun r hr=>by simp only[List.mem_cons,List.not_mem_nil,or_false]at hr; unfold U.vr; omega) (by kernel_rfl)).2
theorem lo21_cells :cellsAll lo21=lc21:=by
 show cellsP _++[]=_
 rw[cellsP_1 rfl,List.append_nil]
 show (U.sc (⟨#[97,98,10,99,10]⟩:ByteArray)).map _=_
 rw[lo21_sc]; rfl
theorem lo21_doc :isDoc lo21=true:=doc_of_mem fun o ho=>by rw[List.mem_singleton.1 ho]; exact .inl rfl
theorem lo21_sums :sB lo21=0∧sR lo21=5:=by
 refine⟨?_,?_⟩
 ·show opB _+0=0
  rw[B.opB_ins (.inl rfl)]; rfl
 show opR _+0=5
 rw[B.opR_txt rfl]
 show ((U.sc (⟨#[97,98,10,99,10]⟩:ByteArray)).length:Int)+0=5
 rw[lo21_sc]; rfl
theorem lo21_of :(B.bOf lo21).2=0:=by rw[B.bOf_of lo21_bad (by rw[lo21_sums.1]; decide) (by rw[lo21_sums.2]; decide)]
theorem lo21_sz :∀ i,i<lo21.length→opSz (lo21.getD i op0):=by
 intro i hi
 match i,hi with
 | 0,_=>exact sz_lit (by decide)
 | k+1,h=>exact absurd h (by show ¬k+1<1; omega)
theorem lo21_err :lnErr lo21=0:=by unfold lnErr; rw[if_pos lo21_doc,lo21_cells]; kernel_rfl
theorem lo21_lns :lnOf lo21=lls21:=by unfold lnOf; rw[lo21_err,lo21_cells]; kernel_rfl
theorem lo21_at :lnAt lo21 4=(1,1,0):=by unfold lnAt; rw[lo21_err,lo21_lns]; kernel_rfl
theorem lo21_at1 :lnAt lo21 1=(0,1,0):=by unfold lnAt; rw[lo21_err,lo21_lns]; kernel_rfl
theorem lo21_at3 :lnAt lo21 (1+3-1)=(1,0,0):=by unfold lnAt; rw[lo21_err,lo21_lns]; kernel_rfl
theorem lo21_place :lnPlace lo21 1 1=(4,0):=by unfold lnPlace; rw[lo21_err,lo21_lns]; kernel_rfl
theorem lo21_touched :lnTouched lo21 1 3=(0,1,0):=by unfold lnTouched; rw[lo21_at1,lo21_at3,lo21_cells]; kernel_rfl
theorem lo21_text :lnText (cellsAll lo21)=(⟨#[97,98,10,99,10]⟩:ByteArray):=by rw[lo21_cells]; kernel_rfl
def CntI (w:World)(g hi:Nat)(pre:List ElL)(M:Nat→Prop)(W:World):Prop:=RX.Blk W g 3 #[i6 (pre.length:Int)]∧M=(fun k=>k=g)∧Below w.heap.size w W
theorem CntI.own {w:World}{g hi B:Nat}(h:w.heap.size≤B)(M:Nat→Prop):OwnFrom B (fun s W=>CntI w g hi s M W):=by
 rintro s W W' row ⟨h1,h2,h3⟩ hg hr
 exact⟨RX.ownFrom_blk (β:=Unit) (B:=B) (fun _=>g) _ (fun _=>_) () W W' row h1 hg hr,h2,RX.ownFrom_below' (β:=Unit) w h () W W' row h3 hg hr⟩
theorem CntI.im {w:World}{g lo hi:Nat}{pre:List ElL}{M:Nat→Prop}{W:World}(h:CntI w g hi pre M W)(h1:g<lo):∀ k,M k→¬(lo≤k∧k<hi)∧k<W.heap.size:=by
 obtain⟨e1,rfl,e3⟩:=h
 rintro k rfl
 exact⟨fun h=>by omega,e1.lt⟩
set_option maxHeartbeats 2000000 in
theorem lives21_any (w:World)(hT:Tabs w)(es:List Addr)(hE:ErrsL w es):Rt 33 #[] w bT:=by
 have hO:ErrsO w es:=hE.o
 refine RX.enterM Tryz.func33 rfl 131 rfl [] rfl (by kernel_rfl) (fun R_ hR_=>?_)
 refine RX.X_mark0 rfl ?_
 refine sg (xe0 1 [(1000000,encD [])] ?_)
 refine nl (sg (xw 2 [] [(19,.slice (some ⟨w.heap.size,0,none⟩) 1 1)] [] (w.alloc (.cells #[i6 1,sT (⟨#[97,98,10,99,10]⟩:ByteArray),i6 0,i6 0,s0,i6 0,.slice none 0 0] 102)) [] trivial ?_))
 obtain⟨w1,w5,b2,k3,z4⟩:=new_world w #[i6 1,sT (⟨#[97,98,10,99,10]⟩:ByteArray),i6 0,i6 0,s0,i6 0,.slice none 0 0] 102
 rw[w5]
 have r6:=Kd.R_litB kOp (W:=w) (e:=102) (cs:=#[i6 1,sT (⟨#[97,98,10,99,10]⟩:ByteArray),i6 0,i6 0,s0,i6 0,.slice none 0 0]) [(⟨1,(⟨#[97,98,10,99,10]⟩:ByteArray),0,0,ByteArray.empty,0,[]⟩:OpA)] k3 (repsOp0 [(⟨1,(⟨#[97,98,10,99,10]⟩:ByteArray),0,0,ByteArray.empty,0,[]⟩:OpA)] (by intro x hx; simp only[List.mem_cons,List.not_mem_nil,or_false]at hx; rcases hx with rfl<;>rfl)) (Nat.le_of_ble_eq_true (by kernel_rfl))
 refine xc 65 ent65 [.slice (some ⟨w.heap.size,0,none⟩) 1 1] (bof_any _ 1 lo21 _ (Kd.R_C r6) (Nat.le_of_ble_eq_true rfl) (Nat.le_of_ble_eq_true rfl) lo21_sz (Nat.le_of_ble_eq_true (by kernel_rfl)) (hT.below b2) es (hO.below b2)) ?_
 rintro e w7 ⟨b11,⟨h0_12,d,A8,c9,rfl,d10⟩|⟨h0_12,rfl⟩⟩
 ·refine⟨_,rfl,?_⟩
  rw[lo21_can]at d10; have hD_:=d10.c
  refine xr0 7 [(1,pw d 0),(3,.nilIface)] [19,20] ?_
  refine nl (sq (sg (xr0 6 [(29,bF)] [3] ?_)))
  refine nl (cf (sk (sg (xr0 1 [(31,pw d 0)] [29] ?_))))
  refine xc 36 ent36 [pw d 0] (lines_any d lo21 _ hD_ lo21_bad (by rw[lo21_sums.1]; decide) (Nat.le_of_ble_eq_true rfl) lo21_sz (by rw[lo21_cells]; exact Nat.le_of_ble_eq_true rfl) (hT.below (bt b2 b11)) es (hE.below (bt b2 b11))) ?_
  rintro e w19 ⟨A13,c14,ls15,el16,rfl,l17,r18,b20⟩; refine⟨_,rfl,?_⟩
  rw[lo21_lns]at el16; rw[el16]at l17 r18; rw[el16,lo21_err,errV_zero]
  have C21:=Kd.R_C r18
  refine xr0 5 [(3,.nilIface),(4,aL A13 lls21 c14)] [31,32] ?_
  refine nl (sg (xe0 1 [(1,pw d 0),(3,.nilIface),(4,aL A13 lls21 c14),(36,pw d 0),(1000000,encD [])] ?_))
  refine xc 45 ent45 [pw d 0,i6 4] (lat_any d lo21 4 _ (hD_.below b20) lo21_bad (by rw[lo21_sums.1]; decide) (Nat.le_of_ble_eq_true rfl) lo21_sz (by rw[lo21_cells]; exact Nat.le_of_ble_eq_true rfl) (hT.below (bt (bt b2 b11) b20)) es (hE.below (bt (bt b2 b11) b20)) (by decide)) ?_
  rintro e w22 ⟨rfl,b23⟩; refine⟨_,rfl,?_⟩
  rw[lo21_at,errV_zero]
  refine xr0 7 [(5,i6 1),(6,i6 1),(7,.nilIface)] [36,37] ?_
  refine nl (sg (xr0 1 [(42,pw d 0)] [] ?_))
  refine xc 47 ent47 [pw d 0,i6 1,i6 1] (lplace_any d lo21 1 1 _ (hD_.below (bt b20 b23)) lo21_bad (by rw[lo21_sums.1]; decide) (Nat.le_of_ble_eq_true rfl) lo21_sz (by rw[lo21_cells]; exact Nat.le_of_ble_eq_true rfl) (hT.below (bt (bt (bt b2 b11) b20) b23)) es (hE.below (bt (bt (bt b2 b11) b20) b23))) ?_
  rintro e w24 ⟨rfl,b25⟩; refine⟨_,rfl,?_⟩
  rw[lo21_place,errV_zero]
  refine xr0 5 [(8,i6 4),(9,.nilIface)] [42,43] ?_
  refine nl (sg (xr0 1 [(47,pw d 0)] [] ?_))
  have B26:Below w.heap.size w w24:=(bt (bt (bt (bt b2 b11) b20) b23) b25)
  refine xc 49 ent49 [pw d 0,i6 1,i6 3] (ltouched_any d lo21 1 3 _ (hD_.below (bt (bt b20 b23) b25)) lo21_bad (by rw[lo21_sums.1]; decide) (Nat.le_of_ble_eq_true rfl) lo21_sz (by rw[lo21_cells]; exact Nat.le_of_ble_eq_true rfl) (hT.below B26) es (hE.below B26) (by decide) (by decide)) ?_
  rintro e w27 ⟨rfl,b28⟩; refine⟨_,rfl,?_⟩
  rw[lo21_touched,errV_zero]
  refine xr0 7 [(10,i6 0),(11,i6 1),(12,.nilIface)] [47,48] ?_
  refine nl (sg (xe0 1 [(1,pw d 0),(3,.nilIface),(4,aL A13 lls21 c14),(5,i6 1),(6,i6 1),(7,.nilIface),(8,i6 4),(9,.nilIface),(10,i6 0),(11,i6 1),(12,.nilIface),(53,pw d 0),(1000000,encD [])] ?_))
  refine xc 38 ent38 [pw d 0] (lntext_any d lo21 _ (hD_.below (bt (bt (bt b20 b23) b25) b28)) lo21_bad (by rw[lo21_sums.1]; decide) (Nat.le_of_ble_eq_true rfl) lo21_sz (by rw[lo21_cells]; exact Nat.le_of_ble_eq_true rfl) (hT.below (bt B26 b28)) es (hE.below (bt B26 b28))) ?_
  rintro e w29 ⟨rfl,b30⟩; refine⟨_,rfl,?_⟩
  rw[if_pos lo21_doc,if_pos lo21_doc,lo21_text,errV_zero]
  refine xr0 5 [(13,sT (⟨#[97,98,10,99,10]⟩:ByteArray)),(14,.nilIface)] [53,54] ?_
  refine nl (sg (xw 1 [] [(15,pw w29.heap.size 0)] [] (w29.alloc (.cells #[i6 0] 3)) [] trivial ?_))
  obtain⟨w31,w35,b32,k33,z34⟩:=new_world w29 #[i6 0] 3
  rw[w35]
  refine xst (i6 0) k33 0 #[i6 0] (fun w36 g37 k38 z39=>?_)
  refine nl (sg (xr0 1 [(57,pw d 0)] [1] ?_))
  have B52:Below w7.heap.size w7 w29:=(bt (bt (bt (bt b20 b23) b25) b28) b30)
  have B53:Below w7.heap.size w7 w36:=(bg (bt (bt (bt (bt (bt b20 b23) b25) b28) b30) b32) g37 (B52).size)
  have B54:Below w.heap.size w w36:=(bg (bt (bt (bt B26 b28) b30) b32) g37 ((bt (bt B26 b28) b30)).size)
  refine xc 42 ent42 [pw d 0] (leach_any d lo21 _ (hD_.below B53) lo21_bad (by rw[lo21_sums.1]; decide) (Nat.le_of_ble_eq_true rfl) lo21_sz (by rw[lo21_cells]; exact Nat.le_of_ble_eq_true rfl) (hT.below B54) es (hE.below B54)) ?_
  rintro e w55 ⟨g44,A45,c46,ls47,el48,rfl,hge49,k50,r51,b56⟩; refine⟨_,rfl,?_⟩
  rw[lo21_lns]at el48; rw[el48]at k50 r51
  have hr9_:kLine.R 78 w55 w36.heap.size (fun k_=>w36.heap.size≤k_∧k_<w55.heap.size) (aL A45 lls21 c46) lls21:=Kd.R_mono (Kd.R_bound r51) (fun k_ hk_=>⟨hk_.2.1,hk_.2.2.1⟩)
  refine xr0 1 [(16,.func (.func 109) #[] #[pw g44 0])] [57,58] ?_
  refine nl (sq (sg (xr0 2 [(60,bF)] [] ?_)))
  refine nl (cf (sk (sq (sg (xe0 1 [(3,.nilIface),(4,aL A13 lls21 c14),(5,i6 1),(6,i6 1),(7,.nilIface),(8,i6 4),(9,.nilIface),(10,i6 0),(11,i6 1),(12,.nilIface),(13,sT (⟨#[97,98,10,99,10]⟩:ByteArray)),(14,.nilIface),(15,pw w29.heap.size 0),(61,.func (.func 109) #[] #[pw g44 0]),(1000000,encD [])] ?_)))))
  refine nl (X_block ?_)
  have hc15_:w29.heap.size<w36.heap.size:=Nat.lt_of_lt_of_le (Blk.lt k38) (Nat.le_refl _)
  have hlh_:w36.heap.size≤w55.heap.size:=(b56).size
  have hhW_:w55.heap.size≤w55.heap.size:=(Nat.le_refl _)
  have B57:Below w29.heap.size w29 w55:=(bt (bg b32 g37 (Nat.le_refl _)) b56)
  refine X_rangeM (α:=ElL) (ι:=Unit) rfl ent109 (encs:=elLV) (leach_seq (fun k_=>w36.heap.size≤k_∧k_<w55.heap.size) (fun k_=>w36.heap.size≤k_∧k_<w55.heap.size) w36.heap.size g44 A45 c46 lls21 w55 hr9_ (fun _ h_=>h_) (fun k_ h_=>by omega) (by decide) (fun l_ h_=>by rcases List.mem_cons.1 h_ with rfl|h_; (· exact Nat.zero_le _); (· rw[List.mem_singleton.1 h_]; exact Nat.zero_le _)) k50) (Below.refl _ _) (fun k_ h_=>by omega) (fun _=>rfl) (by kernel_rfl) (fun pre_ M_ W_=>CntI w29 w29.heap.size w55.heap.size pre_ M_ W_) (fun c_ pre_ W_=>False) (fun M_=>CntI.own (B57).size M_) (fun _=>RX.ownFrom_pure _) (fun _ _ _ h_=>CntI.im h_ hc15_) (fun k_=>k_=w29.heap.size) ⟨(Blk.below k38 b56),rfl,B57⟩ (fun x_ i_ W_=>True) (fun _=>RX.ownFrom_pure _) (fun x_ i_=>[(3,.nilIface),(4,aL A13 lls21 c14),(5,i6 1),(6,i6 1),(7,.nilIface),(8,i6 4),(9,.nilIface),(10,i6 0),(11,i6 1),(12,.nilIface),(13,sT (⟨#[97,98,10,99,10]⟩:ByteArray)),(14,.nilIface),(15,pw w29.heap.size 0)]) ?_ ?_ ?_ ?_
  ·rintro lp_ pre_ M_ x_ W_ hlp_ hws_ ⟨hk15_,hM_,hBw_⟩ hpx_ hlen_
   have hg15l_:=hk15_.lt
   have hl2_:lls21.length=2:=rfl
   refine XI_keep [3,4,5,6,7,8,9,10,11,12,13,14,15,61,62,63] [(3,.nilIface),(4,aL A13 lls21 c14),(5,i6 1),(6,i6 1),(7,.nilIface),(8,i6 4),(9,.nilIface),(10,i6 0),(11,i6 1),(12,.nilIface),(13,sT (⟨#[97,98,10,99,10]⟩:ByteArray)),(14,.nilIface),(15,pw w29.heap.size 0),(61,.func (.func 109) #[] #[pw g44 0]),(62,i6 x_.1),(63,.agg #[i6 x_.2.1.from_,i6 x_.2.1.len,.slice x_.2.2.1 x_.2.1.attrs.length x_.2.2.2,sT x_.2.1.text])] (by kernel_rfl) ?_
   refine XI_skip ?_
   exact⟨(),by kernel_rfl,KeepsFrom.refl _ _,KpM.refl _ _ _,⟨hk15_,hM_,hBw_⟩,trivial⟩
  ·rintro lp_ pre_ M_ x_ i_ W_ hlp_ hws_ ⟨hk15_,hM_,hBw_⟩ _ hlen_
   have hg15l_:=hk15_.lt
   have hl2_:lls21.length=2:=rfl
   refine XI_block ?_
   refine XI_region (by kernel_rfl) (fun _ _ h_=>h_) ?_
   refine xe 2 [(64,.load (i6 (pre_.length:Int))),(65,.eq (i6 ((pre_.length:Int)+1)))] [(3,.nilIface),(4,aL A13 lls21 c14),(5,i6 1),(6,i6 1),(7,.nilIface),(8,i6 4),(9,.nilIface),(10,i6 0),(11,i6 1),(12,.nilIface),(13,sT (⟨#[97,98,10,99,10]⟩:ByteArray)),(14,.nilIface),(15,pw w29.heap.size 0),(65,i6 ((pre_.length:Int)+1))] [_,_] ⟨lc 3 hk15_ 0,w6 ((pre_.length:Int)+1),trivial⟩ ?_
   refine xst (i6 ((pre_.length:Int)+1)) hk15_ 0 #[i6 ((pre_.length:Int)+1)] (fun w58 g59 k60 z61=>?_)
   refine nl ?_
   have hDw_:∀ k_,(fun k_=>w36.heap.size≤k_∧k_<w55.heap.size) k_→k_<W_.heap.size:=fun k_ h_=>by omega
   exact⟨(keeps_store hk15_ g59),M_,(KpM.grown g59 (fun k_ e_=>by injection e_ with e_; subst e_; exact⟨by rw[hM_],fun h_=>by omega⟩) (fun k_ h_=>Nat.lt_of_lt_of_le (hDw_ k_ h_) (Nat.le_refl _))),(fun k_ h_=>.inl h_),⟨by rw[List.length_append,List.length_singleton]; exact k60,hM_,(bg hBw_ g59 (Nat.le_refl _))⟩⟩
  ·rintro D63 pre_ M_ w62 D64 S65 ⟨hk15_,hM_,hBw_⟩ K66
   have hg15l_:=hk15_.lt
   have hl2_:lls21.length=2:=rfl
   have hall_:pre_.length=2:=S65.2
   rw[hall_]at hk15_
   have hds_:Defs (D63::[]) w62:=Defs.cons K66 (fun _ h_=>by cases h_)
   have hdge_:∀ D_∈D63::[],w55.heap.size≤D_:=fun D_ hm_=>(List.mem_cons.1 hm_).elim (fun e_=>by omega) (fun h_=>by cases h_)
   refine sg (xe 9 [(71,.eq bT)] [(4,aL A13 lls21 c14),(5,i6 1),(6,i6 1),(7,.nilIface),(8,i6 4),(9,.nilIface),(10,i6 0),(11,i6 1),(12,.nilIface),(13,sT (⟨#[97,98,10,99,10]⟩:ByteArray)),(14,.nilIface),(15,pw w29.heap.size 0),(73,bT),(74,aL A13 lls21 c14),(1000000,encD (D63::[]))] [Value.bool ((lls21.length:Int)==2)=bT] ⟨congrArg Value.bool (beq_iff_eq.2 ((by rfl))),trivial⟩ ?_)
   have B67:Below w19.heap.size w19 w62:=(bt (bt (bt (bt b23 b25) b28) b30) hBw_)
   obtain⟨ad68,B71,c72,a69,c70,l73,C74⟩:=RX.Kd.atLine (Kd.C_below C21 B67) (i:=(1:Int)) (by decide) (by decide)
   replace c70:CellsAt w62 (ad68.add ((1:Int).toNat*4)) [i6 ((lls21.getD 1 line0).from_),i6 ((lls21.getD 1 line0).len),.slice B71 ((lls21.getD 1 line0).attrs.length) c72,sT ((lls21.getD 1 line0).text)]:=c70
   replace l73:(lls21.getD 1 line0).attrs.length≤c72:=l73
   replace C74:kAttr.C w62 B71 ((lls21.getD 1 line0).attrs.length) (lls21.getD 1 line0).attrs:=C74
   refine xr 7 [(75,.idx ad68),(77,.load (i6 ((lls21.getD 1 line0).from_))),(78,.eq bT)] [(80,bT),(81,aL A13 lls21 c14)] [4,73,74] [A13=some ad68,(0:Int)≤1,1<(lls21.length:Int),la 3 (ad68.add ((1:Int).toNat*4)) (i6 ((lls21.getD 1 line0).from_)) w62,Value.bool ((lls21.getD 1 line0).from_==3)=bT] ⟨a69,(by decide),(by decide),loads1 rfl (elem_cell c70 0 _ rfl),congrArg Value.bool (beq_iff_eq.2 ((by rfl))),trivial⟩ ?_
   obtain⟨ad75,B78,c79,a76,c77,l80,C81⟩:=RX.Kd.atLine (Kd.C_below C21 B67) (i:=(1:Int)) (by decide) (by decide)
   replace c77:CellsAt w62 (ad75.add ((1:Int).toNat*4)) [i6 ((lls21.getD 1 line0).from_),i6 ((lls21.getD 1 line0).len),.slice B78 ((lls21.getD 1 line0).attrs.length) c79,sT ((lls21.getD 1 line0).text)]:=c77
   replace l80:(lls21.getD 1 line0).attrs.length≤c79:=l80
   replace C81:kAttr.C w62 B78 ((lls21.getD 1 line0).attrs.length) (lls21.getD 1 line0).attrs:=C81
   refine xe 50 [(82,.idx ad75),(84,.load (sT ((lls21.getD 1 line0).text))),(85,.eq bT),(128,.load (i6 2))] [(0,bT),(1000000,encD (D63::[]))] [A13=some ad75,(0:Int)≤1,1<(lls21.length:Int),la 9 ((ad75.add ((1:Int).toNat*4)).add 3) (sT ((lls21.getD 1 line0).text)) w62,Value.bool (((lls21.getD 1 line0).text).toList==(⟨#[99]⟩:ByteArray).toList)=bT,_] ⟨a76,(by decide),(by decide),loads1 rfl (elem_cell c77 3 _ rfl),congrArg Value.bool (strEqT ((by rfl))),lc 3 hk15_ 0,trivial⟩ ?_
   refine nl (X_ret (RX.retM_ok (P:=Tryz.prog) (fn:=Tryz.f33) (N:=131) (R:=R_) (ds:=(D63::[])) (dsOf_enc (by kernel_rfl)) (List.nodup_cons.2 ⟨fun h_=>(by cases h_),List.nodup_nil⟩) hds_ [bT] (by kernel_rfl) (fun w_ ho_=>hR_ _ _ ?_)))
   exact⟨rfl,Off.below ho_ (bt (bt (bt B26 b28) b30) hBw_) (fun D_ hm_=>Nat.le_trans ((bt B54 b56)).size (hdge_ D_ hm_))⟩
  rintro D83 c_ pre_ w82 D84 S85 hix_ K86
  exact hix_.elim
 exact absurd lo21_of h0_12
end Go.Proofs.YtgphmfnkeolbcaaGreatDoor
