/- What vellumref01.decode, Breaks, List and Check answer. Conditions: sizes. -/
import Derived.Test.YtlnnjfdonilgmaaGreatDoorB7
set_option linter.unusedVariables false
set_option linter.unusedSimpArgs false
set_option maxRecDepth 100000
namespace Go.Proofs.YtlnnjfdonilgmaaGreatDoor
open Go Go.RowKit Go.Proofs.YtlnnjfdonilgmaaGreatDoorW.PrintWords RX
set_option maxHeartbeats 2000000 in
theorem first_any (s:ByteArray)(p:Nat)(rs:List Nat)(t:List UInt8)(w:World)(hs:s.size≤1000000000)(hp:p<s.size)(hbk:U.Brk ((U.bl s).drop p) rs t):Rt 92 #[sT s,i6 (p:Int)] w (.tuple #[.int .i32 ((U.headP rs).1:Int),i6 ((U.headP rs).2:Int)]):=by
 have hlen:((U.bl s).drop p).length=s.size-p:=by rw[List.length_drop,U.bl_size]
 have hB:U.g ((U.bl s).drop p) 0=(s.data.toList.getD p 0).toNat:=by have h_:=U.g_drop s p 0; rwa [Nat.add_zero]at h_
 have hBlt:(s.data.toList.getD p 0).toNat<256:=UInt8.toNat_lt _
 refine en Tryz.func92 rfl 72 [(0,sT s),(1,i6 (p:Int))] (fun R_ hR_=>?_)
 refine sg (xe0 2 [(0,sT s),(1,nv p)] ?_)
 refine nl (sq (X_region ?_))
 have u1:(s.data.toList.getD p 0).toNat<256:=UInt8.toNat_lt _
 refine xr 4 [(13,.as (.int .u8 ((s.data.toList.getD p 0).toNat:Int)))] [(6,.int .u8 ((s.data.toList.getD p 0).toNat:Int))] [] [RunsAs Tryz.prog [(11,sT s),(12,i6 (p:Int))] (Go.Op.index 9 (Go.Operand.tmp 11) (Go.Operand.tmp 12)) 5 (.int .u8 ((s.data.toList.getD p 0).toNat:Int)) w] ⟨runs_index_s (i:=(p:Int)) Tryz.underlying9 rfl rfl (by omega) (by omega),trivial⟩ ?_
 refine nl (sg (xr 4 [(15,.eq (.int .i32 ((s.data.toList.getD p 0).toNat:Int)))] [(7,i6 1),(8,.int .i32 ((s.data.toList.getD p 0).toNat:Int))] [] [Value.int .i32 (IntKind.i32.wrap (((s.data.toList.getD p 0).toNat:Int)))=Value.int .i32 ((s.data.toList.getD p 0).toNat:Int)] ⟨wr_i32 (by omega) (by omega),trivial⟩ ?_))
 refine nl (X_join (ι:=Nat×Int) (fun⟨n,r⟩=>[(0,sT s),(1,i6 (p:Int)),(7,i6 (n:Int)),(8,.int .i32 r)]) (fun⟨n,r⟩ wj=>n=U.nOf (s.data.toList.getD p 0).toNat∧r=U.r0Of (s.data.toList.getD p 0).toNat∧Below w.heap.size w wj) ?_ ?_)
 ·refine bk (sg (xr0 1 [(17,.int .u8 ((s.data.toList.getD p 0).toNat:Int))] [] ?_))
  by_cases c2:((s.data.toList.getD p 0).toNat:Int)≥240
  ·refine xr1 2 [(18,.eq bT)] [(16,bT)] [17] (dT c2) ?_
   refine nl (ct (rg (xr 5 [(20,.eq (.int .i32 ((s.data.toList.getD p 0).toNat:Int))),(21,.eq (.int .i32 (((s.data.toList.getD p 0).toNat:Int)-240)))] [(7,i6 4),(8,.int .i32 (((s.data.toList.getD p 0).toNat:Int)-240))] [6,16] [Value.int .i32 (IntKind.i32.wrap (((s.data.toList.getD p 0).toNat:Int)))=Value.int .i32 ((s.data.toList.getD p 0).toNat:Int),Value.int .i32 (IntKind.i32.wrap (((s.data.toList.getD p 0).toNat:Int)-240))=Value.int .i32 (((s.data.toList.getD p 0).toNat:Int)-240)] ⟨wr_i32 (by omega) (by omega),wr_i32 (by omega) (by omega),trivial⟩ ?_)))
   refine nl ?_
   exact⟨(4,((s.data.toList.getD p 0).toNat:Int)-240),by kernel_rfl,⟨(by unfold U.nOf; split<;>(try split)<;>(try split)<;>omega),(by unfold U.r0Of; split<;>(try split)<;>(try split)<;>omega),(Below.refl _ _)⟩⟩
  refine xr1 2 [(18,.eq bF)] [(16,bF)] [17] (dF c2) ?_
  refine nl (cf (sg (xr0 1 [(23,.int .u8 ((s.data.toList.getD p 0).toNat:Int))] [16] ?_)))
  by_cases c3:((s.data.toList.getD p 0).toNat:Int)≥224
  ·refine xe1 2 [(24,.eq bT)] [(0,sT s),(1,nv p),(6,.int .u8 ((s.data.toList.getD p 0).toNat:Int)),(7,i6 1),(8,.int .i32 ((s.data.toList.getD p 0).toNat:Int)),(22,bT)] (dT c3) ?_
   refine nl (ct (rg (xr 5 [(26,.eq (.int .i32 ((s.data.toList.getD p 0).toNat:Int))),(27,.eq (.int .i32 (((s.data.toList.getD p 0).toNat:Int)-224)))] [(7,i6 3),(8,.int .i32 (((s.data.toList.getD p 0).toNat:Int)-224))] [6,22] [Value.int .i32 (IntKind.i32.wrap (((s.data.toList.getD p 0).toNat:Int)))=Value.int .i32 ((s.data.toList.getD p 0).toNat:Int),Value.int .i32 (IntKind.i32.wrap (((s.data.toList.getD p 0).toNat:Int)-224))=Value.int .i32 (((s.data.toList.getD p 0).toNat:Int)-224)] ⟨wr_i32 (by omega) (by omega),wr_i32 (by omega) (by omega),trivial⟩ ?_)))
   refine nl ?_
   exact⟨(3,((s.data.toList.getD p 0).toNat:Int)-224),by kernel_rfl,⟨(by unfold U.nOf; split<;>(try split)<;>(try split)<;>omega),(by unfold U.r0Of; split<;>(try split)<;>(try split)<;>omega),(Below.refl _ _)⟩⟩
  refine xe1 2 [(24,.eq bF)] [(0,sT s),(1,nv p),(6,.int .u8 ((s.data.toList.getD p 0).toNat:Int)),(7,i6 1),(8,.int .i32 ((s.data.toList.getD p 0).toNat:Int)),(22,bF)] (dF c3) ?_
  refine nl (cf (sg (xr0 1 [(29,.int .u8 ((s.data.toList.getD p 0).toNat:Int))] [22] ?_)))
  by_cases c_4:((s.data.toList.getD p 0).toNat:Int)≥192
  ·refine xr1 2 [(30,.eq bT)] [(28,bT)] [29] (dT c_4) ?_
   refine nl (ct (rg (xr 5 [(32,.eq (.int .i32 ((s.data.toList.getD p 0).toNat:Int))),(33,.eq (.int .i32 (((s.data.toList.getD p 0).toNat:Int)-192)))] [(7,i6 2),(8,.int .i32 (((s.data.toList.getD p 0).toNat:Int)-192))] [6,28] [Value.int .i32 (IntKind.i32.wrap (((s.data.toList.getD p 0).toNat:Int)))=Value.int .i32 ((s.data.toList.getD p 0).toNat:Int),Value.int .i32 (IntKind.i32.wrap (((s.data.toList.getD p 0).toNat:Int)-192))=Value.int .i32 (((s.data.toList.getD p 0).toNat:Int)-192)] ⟨wr_i32 (by omega) (by omega),wr_i32 (by omega) (by omega),trivial⟩ ?_)))
   refine nl ?_
   exact⟨(2,((s.data.toList.getD p 0).toNat:Int)-192),by kernel_rfl,⟨(by unfold U.nOf; split<;>(try split)<;>(try split)<;>omega),(by unfold U.r0Of; split<;>(try split)<;>(try split)<;>omega),(Below.refl _ _)⟩⟩
  refine xr1 2 [(30,.eq bF)] [(28,bF)] [29] (dF c_4) ?_
  refine nl (cf (X_skip ?_))
  exact⟨(1,((s.data.toList.getD p 0).toNat:Int)),by kernel_rfl,⟨(by unfold U.nOf; split<;>(try split)<;>(try split)<;>omega),(by unfold U.r0Of; split<;>(try split)<;>(try split)<;>omega),(Below.refl _ _)⟩⟩
 rintro⟨n,r⟩ wj ⟨hnn,hrr,HBj⟩
 have hn4:=U.nOf_le (s.data.toList.getD p 0).toNat
 have hr0:=U.r0_bd (s.data.toList.getD p 0).toNat hBlt
 rw[←hnn]at hn4
 rw[←hrr]at hr0
 refine sq (sg (xr1 5 [(36,.eq (i6 ((p:Int)+(n:Int))))] [(36,i6 ((p:Int)+(n:Int))),(38,i6 (s.size:Int))] [] (w6 ((p:Int)+(n:Int))) ?_))
 by_cases c5:(p:Int)+(n:Int)>(s.size:Int)
 ·refine xr1 1 [(39,.eq bT)] [(39,bT)] [36,38] (dT c5) ?_
  refine nl (ct (sg (xe0 2 [(4,.int .i32 0),(5,i6 0)] ?_)))
  refine nl (X_ret (rj [.int .i32 0,i6 0] hR_ ?_))
  rw[U.first_none hbk n (by rw[hB]; exact hnn) _ rfl (fun h_=>by have h1_:=h_.1; omega)]
  exact⟨rfl,HBj⟩
 refine xr1 1 [(39,.eq bF)] [(39,bF)] [36,38] (dF c5) ?_
 refine nl (cf (sk (sq (sg (xr0 1 [(9,i6 1)] [39] ?_)))))
 refine nl (X_block ?_)
 refine X_loop (ι:=Nat×Int) (fun⟨k,r2⟩=>[(0,sT s),(1,i6 (p:Int)),(7,i6 (n:Int)),(8,.int .i32 r2),(9,i6 (k:Int))]) (fun⟨k,r2⟩ wl=>1≤k∧k≤n∧r2=U.acc ((U.bl s).drop p) (k-1)∧Below w.heap.size w wl) (fun⟨k,r2⟩=>n-k) (1,r) ⟨by omega,by omega,by rw[hrr,←hB]; rfl,HBj⟩ (by kernel_rfl) ?_
 rintro⟨k,r2⟩ wl ⟨hk1,hkn,hr2,HB⟩
 have hab:=U.acc_bd ((U.bl s).drop p) (k-1) (by omega)
 rw[←hr2]at hab
 refine sq (sg (xr0 2 [(40,nv k),(41,nv n)] [] ?_))
 by_cases c6:(k:Int)<(n:Int)
 ·refine xr1 1 [(42,.eq bT)] [(42,bT)] [40,41] (dT c6) ?_
  refine nl (ct (sk (sq (bk (X_region ?_)))))
  have u7:(s.data.toList.getD (p+k) 0).toNat<256:=UInt8.toNat_lt _
  refine xr 11 [(46,.eq (.int .i32 (r2*64))),(50,.eq (i6 ((p:Int)+(k:Int)))),(51,.as (.int .u8 ((s.data.toList.getD (p+k) 0).toNat:Int))),(52,.eq (.int .i32 ((s.data.toList.getD (p+k) 0).toNat:Int))),(53,.eq (.int .i32 (((s.data.toList.getD (p+k) 0).toNat%64:Nat):Int))),(54,.eq (.int .i32 ((r2*64)+(((s.data.toList.getD (p+k) 0).toNat%64:Nat):Int))))] [(8,.int .i32 ((r2*64)+(((s.data.toList.getD (p+k) 0).toNat%64:Nat):Int)))] [42] [Value.int .i32 (IntKind.i32.wrap (r2*64))=Value.int .i32 (r2*64),_,RunsAs Tryz.prog [(47,sT s),(50,i6 ((p:Int)+(k:Int)))] (Go.Op.index 9 (Go.Operand.tmp 47) (Go.Operand.tmp 50)) 5 (.int .u8 ((s.data.toList.getD (p+k) 0).toNat:Int)) wl,Value.int .i32 (IntKind.i32.wrap (((s.data.toList.getD (p+k) 0).toNat:Int)))=Value.int .i32 ((s.data.toList.getD (p+k) 0).toNat:Int),Value.int .i32 (Int.tmod ((s.data.toList.getD (p+k) 0).toNat:Int) 64)=.int .i32 (((s.data.toList.getD (p+k) 0).toNat%64:Nat):Int),Value.int .i32 (IntKind.i32.wrap ((r2*64)+(((s.data.toList.getD (p+k) 0).toNat%64:Nat):Int)))=Value.int .i32 ((r2*64)+(((s.data.toList.getD (p+k) 0).toNat%64:Nat):Int))] ⟨wr_i32 (by omega) (by omega),w6 ((p:Int)+(k:Int)),runs_index_s (i:=(p:Int)+(k:Int)) Tryz.underlying9 rfl rfl (by omega) (by omega),wr_i32 (by omega) (by omega),tmN ((s.data.toList.getD (p+k) 0).toNat) 64,wr_i32 (by omega) (by omega),trivial⟩ ?_
  refine nl (rg (xr1 3 [(44,.eq (i6 ((k:Int)+1)))] [(9,i6 ((k:Int)+1))] [] (w6 ((k:Int)+1)) ?_))
  refine nl ?_
  refine⟨(k+1,(r2*64)+(((s.data.toList.getD (p+k) 0).toNat%64:Nat):Int)),by kernel_rfl,?_,?_⟩
  ·have hst:=U.acc_step ((U.bl s).drop p) (k:=k) (by omega)
   rw[U.g_drop,←hr2]at hst
   exact⟨by omega,by omega,by rw[Nat.add_sub_cancel]; exact hst.symm,HB⟩
  (try dsimp only); omega
 refine xr1 1 [(42,.eq bF)] [(42,bF)] [40,41] (dF c6) ?_
 refine nl (cf (X_exit (sg (xr0 1 [(55,.int .i32 r2)] [9,42] ?_))))
 refine xc 108 ent108 [.int .i32 r2] (refScalar_any r2 _) ?_
 rintro e w8 ⟨rfl,b9⟩; refine⟨_,rfl,?_⟩
 refine xr0 1 [(10,.bool (decide (U.vz r2)))] [55,56] ?_
 refine nl (sq (sq (X_any [4] 13 (tf 0 13) (by kernel_rfl) (by kernel_rfl) (by kernel_rfl) (fun wd10 b11 h12=>?_))))
 refine XA_runC (fuel':=12) [0] [] [.bool (decide (U.vz r2))] (tf 1 12) [(57,.bool (decide (U.vz r2)))] [10] [] trivial ?_
 by_cases c13:decide (U.vz r2)=true
 ·rw[show (decide (U.vz r2):Bool)=true from by simpa using c13]
  refine XA_run (fuel':=9) [1,2,3] [] [bF,bF,.int .i32 r2] (tf 4 9) [(0,sT s),(1,i6 (p:Int)),(7,i6 (n:Int)),(8,.int .i32 r2),(59,bF),(60,.int .i32 r2)] [] trivial ?_
  refine XA_pureC (fuel':=3) [5,6,7,8,9,10] [(66,.eq (i6 ((p:Int)+(n:Int)))),(67,.as (sT (s.extract p (p+n))))] [sT s,i6 (p:Int),i6 (p:Int),i6 (n:Int),i6 ((p:Int)+(n:Int)),sT (s.extract p (p+n))] #[true,true,true,true,false,true,true,true,true,true,true,false,false] [(67,sT (s.extract p (p+n)))] [0,1] (fun w_=>[i6 (IntKind.i64.wrap ((p:Int)+(n:Int)))=i6 ((p:Int)+(n:Int)),RunsAs Tryz.prog [(62,sT s),(63,i6 (p:Int)),(66,i6 ((p:Int)+(n:Int)))] (Go.Op.slice 9 (Go.Operand.tmp 62) (some (Go.Operand.tmp 63)) (some (Go.Operand.tmp 66)) none) 9 (sT (s.extract p (p+n))) w_]) (fun w_=>⟨wr_i64 (by omega) (by omega),runs_slice_slh (i:=(p:Int)) (j:=(p:Int)+(n:Int)) Tryz.underlying9 rfl rfl rfl (by omega) (by omega) (by omega),trivial⟩) ?_
  refine XA_act (fuel':=2) 4 (tf 11 2) _ rfl (by kernel_rfl) rfl (by kernel_rfl) rfl ?_
  have hvz:U.vz r2:=of_decide_eq_true c13
  obtain⟨m,hm⟩:=Int.eq_ofNat_of_zero_le hvz.1
  have hvm:U.vr m:=by have h_:=hvz.2; rw[hm,Int.toNat_natCast]at h_; exact h_
  rw[hm]
  refine xc 109 ent109 [.int .i32 (m:Int)] (encode_any m hvm _) ?_
  rintro e w14 ⟨rfl,b15⟩; refine⟨_,rfl,?_⟩
  refine nl ?_
  by_cases c16:(U.encB m)=(s.extract p (p+n))
  ·refine XA_pureC (fuel':=0) [11,12] [(68,.eq bF)] [bF,bF] (tf 13 0) [(8,.int .i32 (m:Int)),(69,bF)] [59,60,61,67] (fun w_=>[Value.bool (!(U.encB m).toList==(s.extract p (p+n)).toList)=bF]) (fun w_=>⟨congrArg Value.bool (strNeF (c16)),trivial⟩) ?_
   refine XA_done (by kernel_rfl) ?_
   refine cf (sk (sg (xe0 4 [(4,.int .i32 (m:Int)),(5,nv n)] ?_)))
   refine nl (X_ret (rj [.int .i32 (m:Int),i6 (n:Int)] hR_ ?_))
   have hfe:=(U.first_eq hbk n (by rw[hB]; exact hnn) r2 (by rw[show n-1=k-1 from by omega]; exact hr2) (by omega) hvz (by rw[hm,Int.toNat_natCast,←U.bl_encB,c16,U.bl_extract,show p+n-p=n from by omega])).1
   rw[hm,Int.toNat_natCast]at hfe
   rw[hfe]
   exact⟨rfl,(bt (bt (bt HB b9) b11) b15)⟩
  refine XA_pureC (fuel':=0) [11,12] [(68,.eq bT)] [bT,bT] (tf 13 0) [(8,.int .i32 (m:Int)),(69,bT)] [59,60,61,67] (fun w_=>[Value.bool (!(U.encB m).toList==(s.extract p (p+n)).toList)=bT]) (fun w_=>⟨congrArg Value.bool (strNeT (c16)),trivial⟩) ?_
  refine XA_done (by kernel_rfl) ?_
  refine ct (sg (xe0 2 [(4,.int .i32 0),(5,i6 0)] ?_))
  refine nl (X_ret (rj [.int .i32 0,i6 0] hR_ ?_))
  rw[U.first_none hbk n (by rw[hB]; exact hnn) r2 (by rw[show n-1=k-1 from by omega]; exact hr2) (fun h_=>c16 (U.bl_inj (by rw[U.bl_encB,U.bl_extract,show p+n-p=n from by omega]; have h1_:=h_.2.2; rwa [hm,Int.toNat_natCast]at h1_)))]
  exact⟨rfl,(bt (bt (bt HB b9) b11) b15)⟩
 rw[show (decide (U.vz r2):Bool)=false from by simpa using c13]
 refine XA_run (fuel':=9) [1,2,3] [] [bT,bT,undef] (tf 4 9) [(0,sT s),(1,i6 (p:Int)),(7,i6 (n:Int)),(8,.int .i32 r2),(59,bT),(60,undef)] [] trivial ?_
 refine XA_pureC (fuel':=3) [5,6,7,8,9,10] [] [undef,undef,undef,undef,undef,undef] #[true,true,true,true,false,true,true,true,true,true,true,false,false] [(67,undef)] [0,1] (fun w_=>[]) (fun w_=>trivial) ?_
 refine XA_pureC (fuel':=2) [4] [] [undef] (tf 11 2) [(61,undef)] [60] (fun w_=>[]) (fun w_=>trivial) ?_
 refine XA_pureC (fuel':=0) [11,12] [] [undef,bT] (tf 13 0) [(69,bT)] [59,61,67] (fun w_=>[]) (fun w_=>trivial) ?_
 refine XA_done (by kernel_rfl) ?_
 refine ct (sg (xe0 2 [(4,.int .i32 0),(5,i6 0)] ?_))
 refine nl (X_ret (rj [.int .i32 0,i6 0] hR_ ?_))
 rw[U.first_none hbk n (by rw[hB]; exact hnn) r2 (by rw[show n-1=k-1 from by omega]; exact hr2) (fun h_=>c13 (decide_eq_true h_.2.1))]
 exact⟨rfl,(bt (bt HB b9) b11)⟩
theorem head_cons (r:Nat)(rs:List Nat):U.headP (r::rs)=(r,(U.enc r).length):=rfl
theorem head_fit (s:ByteArray){dn rest:List Nat}(e:U.sc s=dn++rest):(U.flat dn).length+(U.headP rest).2≤s.size:=by
 cases hr:rest with
 | nil=>
  have h0:=U.flat_done_le s e
  have e1:U.headP []=(0,0):=rfl
  rw[e1]
  simpa using h0
 | cons r rs=>
  have h:=U.flat_done_le s (done:=dn++[r]) (rest:=rs) (by rw[e,hr]; simp)
  rw[U.flat_snoc]at h
  rw[head_cons]
  simp only
  exact h
theorem snoc_place (dn:List Nat)(r:Nat)(rs:List Nat):(U.flat dn).length+(U.headP (r::rs)).2=(U.flat (dn++[(U.headP (r::rs)).1])).length:=by
 rw[head_cons]
 simp only
 exact(U.flat_snoc dn r).symm
theorem snoc_list (dn:List Nat)(r:Nat)(rs:List Nat):dn++(r::rs)=(dn++[(U.headP (r::rs)).1])++(r::rs).drop 1:=by
 rw[head_cons]
 simp
set_option maxHeartbeats 2000000 in
theorem decode_any (s:ByteArray)(w:World)(hs:s.size≤100000000):Calls Tryz.prog 73 #[sT s] w fun e w'=>∃ A' c',e=.returned (.tuple #[.slice A' (U.scz s).length c',i6 (U.brkAt s:Int)])∧(U.scz s).length≤c'∧(Kd.int .i32).R 21 w' w.heap.size (OkFrom w.heap.size) (.slice A' (U.scz s).length c') (U.scz s)∧Below w.heap.size w w':=by
 have hscl:=U.sc_le s
 refine en Tryz.func73 rfl 32 [(0,sT s)] (fun R_ hR_=>?_)
 refine sg (xe0 2 [(0,sT s)] ?_)
 refine nl (sg (xw 1 [] [(8,.slice (some ⟨w.heap.size,0,none⟩) 0 0)] [] (w.alloc (.cells #[] 21)) [] trivial ?_))
 obtain⟨w1,w5,b2,k3,z4⟩:=new_world w #[] 21
 rw[w5]
 refine xr0 1 [(4,.slice (some ⟨w.heap.size,0,none⟩) 0 0)] [8] ?_
 refine nl (sg (xr0 1 [(5,i6 0)] [] ?_))
 refine nl (sq (X_block ?_))
 have r6:=Kd.R_litB (Kd.int .i32) (W:=w) (e:=21) (cs:=#[]) [] k3 (repsInt []) (Nat.le_of_ble_eq_true (by kernel_rfl))
 refine X_loop (ι:=List Nat×List Nat×Nat×Option Addr×Nat×Nat) (fun⟨dn,rest,p,A4,n4,c4⟩=>[(0,sT s),(4,.slice A4 n4 c4),(5,i6 (p:Int))]) (fun⟨dn,rest,p,A4,n4,c4⟩ wl=>U.sc s=dn++rest∧p=(U.flat dn).length∧(Kd.int .i32).R 21 wl w.heap.size (OkFrom w.heap.size) (.slice A4 n4 c4) (dn.map fun(r_:Nat)=>(r_:Int))∧w.heap.size≤wl.heap.size∧Below w.heap.size w wl) (fun⟨dn,rest,p,A4,n4,c4⟩=>rest.length) ([],U.sc s,0,(some ⟨w.heap.size,0,none⟩),0,0) ⟨rfl,rfl,r6,(b2).size,b2⟩ (by kernel_rfl) ?_
 rintro⟨dn,rest,p,A4,n4,c4⟩ wl ⟨hsc,hpp,hr4,hle4,HB⟩
 have hdl:=U.flat_done_le s hsc
 have hdc:dn.length≤(U.sc s).length:=by rw[hsc,List.length_append]; omega
 have hml:(dn.map fun(r_:Nat)=>(r_:Int)).length=dn.length:=List.length_map ..
 refine sq (sg (xr0 3 [(9,nv p),(11,i6 (s.size:Int))] [] ?_))
 by_cases c7:(p:Int)<(s.size:Int)
 ·refine xr1 1 [(12,.eq bT)] [(12,bT)] [9,11] (dT c7) ?_
  refine nl (ct (sk (bk (sg (xr0 2 [(14,sT s),(15,nv p)] [12] ?_)))))
  refine xc 92 ent92 [sT s,i6 (p:Int)] (first_any s p rest (U.tl s) _ (by omega) (by omega) (by rw[hpp]; exact U.brk_at s hsc)) ?_
  rintro e w8 ⟨rfl,b9⟩; refine⟨_,rfl,?_⟩
  have hh2:=head_fit s hsc
  rw[←hpp]at hh2
  refine xr0 5 [(6,.int .i32 ((U.headP rest).1:Int)),(7,i6 ((U.headP rest).2:Int))] [14,15,16] ?_
  refine nl (sq (sg (xr0 1 [(19,i6 ((U.headP rest).2:Int))] [] ?_)))
  by_cases c10:((U.headP rest).2:Int)=0
  ·refine xe1 1 [(20,.eq bT)] [(0,sT s),(4,.slice A4 n4 c4),(5,nv p),(6,.int .i32 ((U.headP rest).1:Int)),(7,i6 ((U.headP rest).2:Int)),(20,bT)] (bE c10) ?_
   refine nl (ct (sg (xe0 4 [(2,.slice A4 n4 c4),(3,nv p)] ?_)))
   refine nl (X_ret (rj [.slice A4 n4 c4,i6 (p:Int)] hR_ ?_))
   have hre:rest=[]:=U.headP_zero (by omega)
   have hdn:U.sc s=dn:=by rw[hsc,hre,List.append_nil]
   have hz:U.scz s=dn.map (fun(r_:Nat)=>(r_:Int)):=by unfold U.scz; rw[hdn]
   have hba:U.brkAt s=p:=by unfold U.brkAt; rw[hdn]; exact hpp.symm
   have hn4:=(RX.Kd.R_len (Kd.R_below hr4 b9))
   rw[hz,hba]
   obtain rfl:n4=(dn.map fun(r_:Nat)=>(r_:Int)).length:=hn4.1
   exact⟨_,_,rfl,hn4.2,Kd.R_low (Kd.R_below hr4 b9) (Nat.le_refl _),(bt HB b9)⟩
  refine xe1 1 [(20,.eq bF)] [(0,sT s),(4,.slice A4 n4 c4),(5,nv p),(6,.int .i32 ((U.headP rest).1:Int)),(7,i6 ((U.headP rest).2:Int)),(20,bF)] (bN c10) ?_
  refine nl (cf (sk (sg (xw 3 [] [(23,.slice A4 n4 c4),(25,.slice (some ⟨w8.heap.size,0,none⟩) 1 1)] [4,6,20] (w8.alloc (.cells #[.int .i32 ((U.headP rest).1:Int)] 21)) [] trivial ?_))))
  obtain⟨w11,w15,b12,k13,z14⟩:=new_world w8 #[.int .i32 ((U.headP rest).1:Int)] 21
  rw[w15]
  rw[←w15]
  refine XL_append (Kd.int .i32) rfl rfl rfl w.heap.size 21 (.int .i32 0) 4 Tryz.underlying140 info21 rfl (by decide) (by omega) (dn.map fun(r_:Nat)=>(r_:Int)) ((U.headP rest).1:Int) [.int .i32 ((U.headP rest).1:Int)] (fun _=>False) (by kernel_rfl) rfl (fun _ h=>h.elim) (Kd.R_below hr4 b9) ((bt HB b9)).size (by first|omega|(simp; omega)) ?_
  intro A16 c17 w18 r19 c20 g21 l22 a23
  refine xr0 1 [(4,aL A16 ((dn.map fun(r_:Nat)=>(r_:Int))++[((U.headP rest).1:Int)]) c17)] [23,25,26] ?_
  refine nl (rg (xr1 4 [(29,.eq (i6 ((p:Int)+((U.headP rest).2:Int))))] [(5,i6 ((p:Int)+((U.headP rest).2:Int)))] [7] (w6 ((p:Int)+((U.headP rest).2:Int))) ?_))
  refine nl ?_
  have B24:Below w.heap.size w w18:=(bgo (bt HB b9) g21 l22 (Nat.le_refl _))
  refine⟨(dn++[(U.headP rest).1],rest.drop 1,p+(U.headP rest).2,A16,((dn.map fun(r_:Nat)=>(r_:Int))++[((U.headP rest).1:Int)]).length,c17),by kernel_rfl,?_,?_⟩
  ·obtain⟨r,rs,rfl⟩:∃ r rs,rest=r::rs:=by cases rest with|nil=>exact absurd rfl c10|cons r rs=>exact⟨r,rs,rfl⟩
   exact⟨by rw[hsc]; exact snoc_list dn r rs,by rw[hpp]; exact snoc_place dn r rs,by rw[List.map_append]; exact r19,(B24).size,B24⟩
  (try dsimp only); rw[List.length_drop]; have hrn:rest≠[]:=(fun e_=>by subst e_; exact absurd rfl c10); have:=List.length_pos_iff.2 hrn; omega
 refine xr1 1 [(12,.eq bF)] [(12,bF)] [9,11] (dF c7) ?_
 refine nl (cf (X_exit (sg (xe0 4 [(2,.slice A4 n4 c4),(3,nv p)] ?_))))
 refine nl (X_ret (rj [.slice A4 n4 c4,i6 (p:Int)] hR_ ?_))
 have hre:rest=[]:=U.done_end s hsc (by omega)
 have hdn:U.sc s=dn:=by rw[hsc,hre,List.append_nil]
 have hz:U.scz s=dn.map (fun(r_:Nat)=>(r_:Int)):=by unfold U.scz; rw[hdn]
 have hba:U.brkAt s=p:=by unfold U.brkAt; rw[hdn]; exact hpp.symm
 have hn4:=(RX.Kd.R_len hr4)
 rw[hz,hba]
 obtain rfl:n4=(dn.map fun(r_:Nat)=>(r_:Int)).length:=hn4.1
 exact⟨_,_,rfl,hn4.2,Kd.R_low hr4 (Nat.le_refl _),HB⟩
theorem breaks_any (s:ByteArray)(w:World)(hs:s.size≤100000000):Rt 56 #[sT s] w (i6 (U.brkAt s:Int)):=by
 refine en Tryz.func56 rfl 11 [(0,sT s)] (fun R_ hR_=>?_)
 refine sg (xe0 1 [(0,sT s)] ?_)
 refine nl (sg (xe0 1 [(6,sT s)] ?_))
 refine xc 73 ent73 [sT s] (decode_any s _ (by omega)) ?_
 rintro e w_5 ⟨A1,c2,rfl,l3,r4,b6⟩; refine⟨_,rfl,?_⟩
 refine xe0 5 [(4,i6 (U.brkAt s:Int))] ?_
 refine nl (sg (xe0 2 [(2,i6 (U.brkAt s:Int))] ?_))
 refine nl (X_ret (rj [i6 (U.brkAt s:Int)] hR_ ?_))
 exact⟨rfl,b6⟩
theorem rlist_any (s:ByteArray)(w:World)(hs:s.size≤100000000):Calls Tryz.prog 69 #[sT s] w fun e w'=>∃ A' c',e=.returned (.slice A' (U.scz s).length c')∧(U.scz s).length≤c'∧(Kd.int .i32).R 21 w' w.heap.size (OkFrom w.heap.size) (.slice A' (U.scz s).length c') (U.scz s)∧Below w.heap.size w w':=by
 refine en Tryz.func69 rfl 11 [(0,sT s)] (fun R_ hR_=>?_)
 refine sg (xe0 1 [(0,sT s)] ?_)
 refine nl (sg (xe0 1 [(6,sT s)] ?_))
 refine xc 73 ent73 [sT s] (decode_any s _ (by omega)) ?_
 rintro e w_5 ⟨A1,c2,rfl,l3,r4,b6⟩; refine⟨_,rfl,?_⟩
 refine xe0 5 [(3,aL A1 (U.scz s) c2)] ?_
 refine nl (sg (xe0 2 [(2,aL A1 (U.scz s) c2)] ?_))
 refine nl (X_ret (rj [aL A1 (U.scz s) c2] hR_ ?_))
 exact⟨_,_,rfl,(RX.Kd.R_len r4).2,Kd.R_low r4 (Nat.le_refl _),b6⟩
end Go.Proofs.YtlnnjfdonilgmaaGreatDoor
