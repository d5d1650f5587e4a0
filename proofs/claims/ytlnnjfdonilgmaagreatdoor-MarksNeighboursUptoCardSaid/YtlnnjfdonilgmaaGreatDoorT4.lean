/- What builders gather. Conditions: sizes, the tables of utf8, the errors' variables. -/
import Derived.Test.YtlnnjfdonilgmaaGreatDoorT3
set_option linter.unusedVariables false
set_option linter.unusedSimpArgs false
set_option maxRecDepth 100000
namespace Go.Proofs.YtlnnjfdonilgmaaGreatDoor
open Go Go.RowKit Go.Proofs.YtlnnjfdonilgmaaGreatDoorW.PrintWords RX
theorem ent61 :Ent Tryz.prog 61:=ent_of Tryz.func61 (by kernel_rfl) rfl
theorem ent46 :Ent Tryz.prog 46:=ent_of Tryz.func46 (by kernel_rfl) rfl
set_option maxHeartbeats 1000000 in
theorem badd_ins (D:Option Addr)(n d:Nat)(t:ByteArray)(k:Int)(g:Nat)(b r:Int)(sl gn:Value)(w:World)(hk:RX.Blk w g 119 #[i6 b,i6 r,sl,gn])(hb:0≤b∧b≤1099511627776)(hr:0≤r∧r≤1099511627776)(hkb:0≤k∧k≤1099511627776):Calls Tryz.prog 61 #[pw g 0,.iface 153 (.agg #[.slice D n d,sT t,i6 k])] w fun e w'=>
  Two g none w w'∧((e=.returned bT∧b+0≤1099511627776∧r+k≤1099511627776∧RX.Blk w' g 119 #[i6 (b+0),i6 (r+k),sl,gn])∨(e=.returned bF∧(1099511627776<b+0∨1099511627776<r+k)∧RX.Blk w' g 119 #[i6 b,i6 r,sl,gn])):=by
 refine en Tryz.func61 rfl 60 [(0,pw g 0),(1,.iface 153 (.agg #[.slice D n d,sT t,i6 k]))] (fun R_ hR_=>?_)
 refine sg (xe0 1 [(0,pw g 0),(1,.iface 153 (.agg #[.slice D n d,sT t,i6 k]))] ?_)
 refine nl (sg (xr0 1 [(6,.iface 153 (.agg #[.slice D n d,sT t,i6 k]))] [] ?_))
 refine XL_inv 146 #[.agg #[.slice D n d,sT t,i6 k]] rfl rfl (by kernel_rfl) (by kernel_rfl) (insertLen_any _ _ _ _ _ _) ?_
 rintro e w1 ⟨rfl,b2⟩; refine⟨_,rfl,?_⟩
 refine xr0 1 [(7,i6 k),(8,.iface 153 (.agg #[.slice D n d,sT t,i6 k]))] [6] ?_
 refine XL_inv 146 #[.agg #[.slice D n d,sT t,i6 k]] rfl rfl (by kernel_rfl) (by kernel_rfl) (insertLen_any _ _ _ _ _ _) ?_
 rintro e w3 ⟨rfl,b4⟩; refine⟨_,rfl,?_⟩
 refine xw 2 [] [(5,pw w3.heap.size 0),(10,.agg #[i6 k,i6 k])] [7,8,9] (w3.alloc (.cells #[i6 0,i6 0] 117)) [] trivial ?_
 obtain⟨w_5,w9,b6,k7,z8⟩:=new_world w3 #[i6 0,i6 0] 117
 rw[w9]
 refine xst (.agg #[i6 k,i6 k]) k7 0 #[i6 k,i6 k] (fun w10 g11 k12 z13=>?_)
 have hne14:g≠w3.heap.size:=Blk.tne (Blk.below hk (bt (bt b2 b4) b6)) k7 rfl
 have k15:=Blk.other (Blk.below hk (bt (bt b2 b4) b6)) g11 hne14
 refine nl (sq (sg (xr0 1 [(11,.iface 153 (.agg #[.slice D n d,sT t,i6 k]))] [1,10] ?_)))
 refine nl (bk (sg (xr0 3 [(13,bF)] [] ?_)))
 refine nl (cf (sg (xe0 7 [(0,pw g 0),(5,pw w3.heap.size 0),(22,bT)] ?_)))
 refine nl (ct (rg (xr0 1 [(23,pw w3.heap.size 0)] [22] ?_)))
 refine xst (i6 0) k12 0 #[i6 0,i6 k] (fun w16 g17 k18 z19=>?_)
 have k20:=Blk.other k15 g17 hne14
 refine nl (sq (sq (X_still (by kernel_rfl) (by kernel_rfl) (fun wd21 b22 h23=>?_))))
 refine xsC 7 [(25,.load (i6 0)),(29,.load (i6 b)),(30,.eq (i6 (1099511627776-b)))] [(25,i6 0),(30,i6 (1099511627776-b))] [23] [_,_,_] ⟨lc 3 (Blk.below k18 b22) 0,lc 3 (Blk.below k20 b22) 0,w6 (1099511627776-b),trivial⟩ ?_
 by_cases c24:(0:Int)>1099511627776-b
 ·exfalso; omega
 refine xsC 9 [(31,.eq bF),(34,.load (i6 k)),(38,.load (i6 r)),(39,.eq (i6 (1099511627776-r)))] [(32,bF),(34,i6 k),(39,i6 (1099511627776-r))] [25,30] [_,_,_,_] ⟨dF c24,lc 3 (Blk.below k18 b22) 1,lc 3 (Blk.below k20 b22) 1,w6 (1099511627776-r),trivial⟩ ?_
 by_cases c25:k>1099511627776-r
 ·refine xsC 2 [(40,.eq bT)] [(41,bT)] [32,34,39] [_] ⟨dT c25,trivial⟩ ?_
  refine XS_nil ?_
  refine ct (sg (xe0 1 [(4,bF)] ?_))
  refine nl (X_ret (rj [bF] hR_ ?_))
  exact⟨(((((((Two.refl g none w).below b2).below b4).below b6).grown g11 (fun x_ e_=>.inr (.inr (by injection e_ with e_; have h_:=(Nat.le_trans b2.size b4.size); omega)))).grown g17 (fun x_ e_=>.inr (.inr (by injection e_ with e_; have h_:=(Nat.le_trans b2.size b4.size); omega)))).below b22),.inr ⟨rfl,by omega,(Blk.below k20 b22)⟩⟩
 refine xsC 2 [(40,.eq bF)] [(41,bF)] [32,34,39] [_] ⟨dF c25,trivial⟩ ?_
 refine XS_nil ?_
 refine cf (sk (sq (X_any [9] 10 (tf 0 10) (by kernel_rfl) (by kernel_rfl) (by kernel_rfl) (fun wd26 b27 h28=>?_))))
 refine XA_runC (fuel':=1) [0,1,2,3,4,5,6,7,8] [(45,.load (i6 b)),(47,.load (i6 0)),(48,.eq (i6 (b+0)))] [pw g 0,pw g 0,pw g 0,i6 b,pw w3.heap.size 0,i6 0,i6 (b+0),pw g 0,pw g 0] (tf 9 1) [(48,i6 (b+0)),(50,pw g 0)] [41] [la 3 (⟨g,0,none⟩) (i6 b) wd26,la 3 (⟨w3.heap.size,0,none⟩) (i6 0) wd26,i6 (IntKind.i64.wrap (b+0))=i6 (b+0)] ⟨loads1 rfl (Blk.cell (Blk.below k20 (bt b22 b27)) 0 _ rfl),loads1 rfl (Blk.cell (Blk.below k18 (bt b22 b27)) 0 _ rfl),wr_i64 (by omega) (by omega),trivial⟩ ?_
 refine XA_act (fuel':=0) 9 (tf 10 0) _ rfl (by kernel_rfl) rfl (by kernel_rfl) rfl ?_
 refine xst (i6 (b+0)) (Blk.below k20 (bt b22 b27)) 0 #[i6 (b+0),i6 r,sl,gn] (fun w29 g30 k31 z32=>?_)
 have hne33:w3.heap.size≠g:=Blk.tne (Blk.below k18 (bt b22 b27)) (Blk.below k20 (bt b22 b27)) rfl
 have k34:=Blk.other (Blk.below k18 (bt b22 b27)) g30 hne33
 refine nl (XA_done (by kernel_rfl) ?_)
 refine sq (X_any [9] 10 (tf 0 10) (by kernel_rfl) (by kernel_rfl) (by kernel_rfl) (fun wd35 b36 h37=>?_))
 refine XA_run (fuel':=1) [0,1,2,3,4,5,6,7,8] [(54,.load (i6 r)),(56,.load (i6 k)),(57,.eq (i6 (r+k)))] [pw g 0,pw g 0,pw g 1,i6 r,pw w3.heap.size 1,i6 k,i6 (r+k),pw g 0,pw g 1] (tf 9 1) [(57,i6 (r+k)),(59,pw g 1)] [la 3 (⟨g,1,none⟩) (i6 r) wd35,la 3 (⟨w3.heap.size,1,none⟩) (i6 k) wd35,i6 (IntKind.i64.wrap (r+k))=i6 (r+k)] ⟨loads1 rfl (Blk.cell (Blk.below k31 b36) 1 _ rfl),loads1 rfl (Blk.cell (Blk.below k34 b36) 1 _ rfl),wr_i64 (by omega) (by omega),trivial⟩ ?_
 refine XA_act (fuel':=0) 9 (tf 10 0) _ rfl (by kernel_rfl) rfl (by kernel_rfl) rfl ?_
 refine xst (i6 (r+k)) (Blk.below k31 b36) 1 #[i6 (b+0),i6 (r+k),sl,gn] (fun w38 g39 k40 z41=>?_)
 refine nl (XA_done (by kernel_rfl) ?_)
 refine sg (xe0 1 [(4,bT)] ?_)
 refine nl (X_ret (rj [bT] hR_ ?_))
 have hkz_:=k40
 exact⟨(((((((((((Two.refl g none w).below b2).below b4).below b6).grown g11 (fun x_ e_=>.inr (.inr (by injection e_ with e_; have h_:=(Nat.le_trans b2.size b4.size); omega)))).grown g17 (fun x_ e_=>.inr (.inr (by injection e_ with e_; have h_:=(Nat.le_trans b2.size b4.size); omega)))).below b22).below b27).store g30).below b36).store g39),.inl ⟨rfl,by omega,by omega,hkz_⟩⟩
set_option maxHeartbeats 1000000 in
theorem badd_emb (D:Option Addr)(n d:Nat)(t:ByteArray)(v:Value)(g:Nat)(b r:Int)(sl gn:Value)(w:World)(hk:RX.Blk w g 119 #[i6 b,i6 r,sl,gn])(hb:0≤b∧b≤1099511627776)(hr:0≤r∧r≤1099511627776):Calls Tryz.prog 61 #[pw g 0,.iface 157 (.agg #[.slice D n d,sT t,v])] w fun e w'=>
  Two g none w w'∧((e=.returned bT∧b+0≤1099511627776∧r+1≤1099511627776∧RX.Blk w' g 119 #[i6 (b+0),i6 (r+1),sl,gn])∨(e=.returned bF∧(1099511627776<b+0∨1099511627776<r+1)∧RX.Blk w' g 119 #[i6 b,i6 r,sl,gn])):=by
 refine en Tryz.func61 rfl 60 [(0,pw g 0),(1,.iface 157 (.agg #[.slice D n d,sT t,v]))] (fun R_ hR_=>?_)
 refine sg (xe0 1 [(0,pw g 0),(1,.iface 157 (.agg #[.slice D n d,sT t,v]))] ?_)
 refine nl (sg (xr0 1 [(6,.iface 157 (.agg #[.slice D n d,sT t,v]))] [] ?_))
 refine XL_inv 148 #[.agg #[.slice D n d,sT t,v]] rfl rfl (by kernel_rfl) (by kernel_rfl) (embedLen_any _ _ _ _ _ _) ?_
 rintro e w1 ⟨rfl,b2⟩; refine⟨_,rfl,?_⟩
 refine xr0 1 [(7,i6 1),(8,.iface 157 (.agg #[.slice D n d,sT t,v]))] [6] ?_
 refine XL_inv 148 #[.agg #[.slice D n d,sT t,v]] rfl rfl (by kernel_rfl) (by kernel_rfl) (embedLen_any _ _ _ _ _ _) ?_
 rintro e w3 ⟨rfl,b4⟩; refine⟨_,rfl,?_⟩
 refine xw 2 [] [(5,pw w3.heap.size 0),(10,.agg #[i6 1,i6 1])] [7,8,9] (w3.alloc (.cells #[i6 0,i6 0] 117)) [] trivial ?_
 obtain⟨w_5,w9,b6,k7,z8⟩:=new_world w3 #[i6 0,i6 0] 117
 rw[w9]
 refine xst (.agg #[i6 1,i6 1]) k7 0 #[i6 1,i6 1] (fun w10 g11 k12 z13=>?_)
 have hne14:g≠w3.heap.size:=Blk.tne (Blk.below hk (bt (bt b2 b4) b6)) k7 rfl
 have k15:=Blk.other (Blk.below hk (bt (bt b2 b4) b6)) g11 hne14
 refine nl (sq (sg (xr0 1 [(11,.iface 157 (.agg #[.slice D n d,sT t,v]))] [1,10] ?_)))
 refine nl (bk (sg (xr0 3 [(13,bF)] [] ?_)))
 refine nl (cf (sg (xe0 7 [(0,pw g 0),(5,pw w3.heap.size 0),(22,bT)] ?_)))
 refine nl (ct (rg (xr0 1 [(23,pw w3.heap.size 0)] [22] ?_)))
 refine xst (i6 0) k12 0 #[i6 0,i6 1] (fun w16 g17 k18 z19=>?_)
 have k20:=Blk.other k15 g17 hne14
 refine nl (sq (sq (X_still (by kernel_rfl) (by kernel_rfl) (fun wd21 b22 h23=>?_))))
 refine xsC 7 [(25,.load (i6 0)),(29,.load (i6 b)),(30,.eq (i6 (1099511627776-b)))] [(25,i6 0),(30,i6 (1099511627776-b))] [23] [_,_,_] ⟨lc 3 (Blk.below k18 b22) 0,lc 3 (Blk.below k20 b22) 0,w6 (1099511627776-b),trivial⟩ ?_
 by_cases c24:(0:Int)>1099511627776-b
 ·exfalso; omega
 refine xsC 9 [(31,.eq bF),(34,.load (i6 1)),(38,.load (i6 r)),(39,.eq (i6 (1099511627776-r)))] [(32,bF),(34,i6 1),(39,i6 (1099511627776-r))] [25,30] [_,_,_,_] ⟨dF c24,lc 3 (Blk.below k18 b22) 1,lc 3 (Blk.below k20 b22) 1,w6 (1099511627776-r),trivial⟩ ?_
 by_cases c25:(1:Int)>1099511627776-r
 ·refine xsC 2 [(40,.eq bT)] [(41,bT)] [32,34,39] [_] ⟨dT c25,trivial⟩ ?_
  refine XS_nil ?_
  refine ct (sg (xe0 1 [(4,bF)] ?_))
  refine nl (X_ret (rj [bF] hR_ ?_))
  exact⟨(((((((Two.refl g none w).below b2).below b4).below b6).grown g11 (fun x_ e_=>.inr (.inr (by injection e_ with e_; have h_:=(Nat.le_trans b2.size b4.size); omega)))).grown g17 (fun x_ e_=>.inr (.inr (by injection e_ with e_; have h_:=(Nat.le_trans b2.size b4.size); omega)))).below b22),.inr ⟨rfl,by omega,(Blk.below k20 b22)⟩⟩
 refine xsC 2 [(40,.eq bF)] [(41,bF)] [32,34,39] [_] ⟨dF c25,trivial⟩ ?_
 refine XS_nil ?_
 refine cf (sk (sq (X_any [9] 10 (tf 0 10) (by kernel_rfl) (by kernel_rfl) (by kernel_rfl) (fun wd26 b27 h28=>?_))))
 refine XA_runC (fuel':=1) [0,1,2,3,4,5,6,7,8] [(45,.load (i6 b)),(47,.load (i6 0)),(48,.eq (i6 (b+0)))] [pw g 0,pw g 0,pw g 0,i6 b,pw w3.heap.size 0,i6 0,i6 (b+0),pw g 0,pw g 0] (tf 9 1) [(48,i6 (b+0)),(50,pw g 0)] [41] [la 3 (⟨g,0,none⟩) (i6 b) wd26,la 3 (⟨w3.heap.size,0,none⟩) (i6 0) wd26,i6 (IntKind.i64.wrap (b+0))=i6 (b+0)] ⟨loads1 rfl (Blk.cell (Blk.below k20 (bt b22 b27)) 0 _ rfl),loads1 rfl (Blk.cell (Blk.below k18 (bt b22 b27)) 0 _ rfl),wr_i64 (by omega) (by omega),trivial⟩ ?_
 refine XA_act (fuel':=0) 9 (tf 10 0) _ rfl (by kernel_rfl) rfl (by kernel_rfl) rfl ?_
 refine xst (i6 (b+0)) (Blk.below k20 (bt b22 b27)) 0 #[i6 (b+0),i6 r,sl,gn] (fun w29 g30 k31 z32=>?_)
 have hne33:w3.heap.size≠g:=Blk.tne (Blk.below k18 (bt b22 b27)) (Blk.below k20 (bt b22 b27)) rfl
 have k34:=Blk.other (Blk.below k18 (bt b22 b27)) g30 hne33
 refine nl (XA_done (by kernel_rfl) ?_)
 refine sq (X_any [9] 10 (tf 0 10) (by kernel_rfl) (by kernel_rfl) (by kernel_rfl) (fun wd35 b36 h37=>?_))
 refine XA_run (fuel':=1) [0,1,2,3,4,5,6,7,8] [(54,.load (i6 r)),(56,.load (i6 1)),(57,.eq (i6 (r+1)))] [pw g 0,pw g 0,pw g 1,i6 r,pw w3.heap.size 1,i6 1,i6 (r+1),pw g 0,pw g 1] (tf 9 1) [(57,i6 (r+1)),(59,pw g 1)] [la 3 (⟨g,1,none⟩) (i6 r) wd35,la 3 (⟨w3.heap.size,1,none⟩) (i6 1) wd35,i6 (IntKind.i64.wrap (r+1))=i6 (r+1)] ⟨loads1 rfl (Blk.cell (Blk.below k31 b36) 1 _ rfl),loads1 rfl (Blk.cell (Blk.below k34 b36) 1 _ rfl),wr_i64 (by omega) (by omega),trivial⟩ ?_
 refine XA_act (fuel':=0) 9 (tf 10 0) _ rfl (by kernel_rfl) rfl (by kernel_rfl) rfl ?_
 refine xst (i6 (r+1)) (Blk.below k31 b36) 1 #[i6 (b+0),i6 (r+1),sl,gn] (fun w38 g39 k40 z41=>?_)
 refine nl (XA_done (by kernel_rfl) ?_)
 refine sg (xe0 1 [(4,bT)] ?_)
 refine nl (X_ret (rj [bT] hR_ ?_))
 have hkz_:=k40
 exact⟨(((((((((((Two.refl g none w).below b2).below b4).below b6).grown g11 (fun x_ e_=>.inr (.inr (by injection e_ with e_; have h_:=(Nat.le_trans b2.size b4.size); omega)))).grown g17 (fun x_ e_=>.inr (.inr (by injection e_ with e_; have h_:=(Nat.le_trans b2.size b4.size); omega)))).below b22).below b27).store g30).below b36).store g39),.inl ⟨rfl,by omega,by omega,hkz_⟩⟩
set_option maxHeartbeats 1000000 in
theorem badd_ret (D:Option Addr)(n d:Nat)(k:Int)(g:Nat)(b r:Int)(sl gn:Value)(w:World)(hk:RX.Blk w g 119 #[i6 b,i6 r,sl,gn])(hb:0≤b∧b≤1099511627776)(hr:0≤r∧r≤1099511627776)(hkb:0≤k∧k≤1099511627776):Calls Tryz.prog 61 #[pw g 0,.iface 131 (.agg #[.slice D n d,i6 k])] w fun e w'=>
  Two g none w w'∧((e=.returned bT∧b+k≤1099511627776∧r+k≤1099511627776∧RX.Blk w' g 119 #[i6 (b+k),i6 (r+k),sl,gn])∨(e=.returned bF∧(1099511627776<b+k∨1099511627776<r+k)∧RX.Blk w' g 119 #[i6 b,i6 r,sl,gn])):=by
 refine en Tryz.func61 rfl 60 [(0,pw g 0),(1,.iface 131 (.agg #[.slice D n d,i6 k]))] (fun R_ hR_=>?_)
 refine sg (xe0 1 [(0,pw g 0),(1,.iface 131 (.agg #[.slice D n d,i6 k]))] ?_)
 refine nl (sg (xr0 1 [(6,.iface 131 (.agg #[.slice D n d,i6 k]))] [] ?_))
 refine XL_inv 144 #[.agg #[.slice D n d,i6 k]] rfl rfl (by kernel_rfl) (by kernel_rfl) (retainLen_any _ _ _ _ _) ?_
 rintro e w1 ⟨rfl,b2⟩; refine⟨_,rfl,?_⟩
 refine xr0 1 [(7,i6 k),(8,.iface 131 (.agg #[.slice D n d,i6 k]))] [6] ?_
 refine XL_inv 144 #[.agg #[.slice D n d,i6 k]] rfl rfl (by kernel_rfl) (by kernel_rfl) (retainLen_any _ _ _ _ _) ?_
 rintro e w3 ⟨rfl,b4⟩; refine⟨_,rfl,?_⟩
 refine xw 2 [] [(5,pw w3.heap.size 0),(10,.agg #[i6 k,i6 k])] [7,8,9] (w3.alloc (.cells #[i6 0,i6 0] 117)) [] trivial ?_
 obtain⟨w_5,w9,b6,k7,z8⟩:=new_world w3 #[i6 0,i6 0] 117
 rw[w9]
 refine xst (.agg #[i6 k,i6 k]) k7 0 #[i6 k,i6 k] (fun w10 g11 k12 z13=>?_)
 have hne14:g≠w3.heap.size:=Blk.tne (Blk.below hk (bt (bt b2 b4) b6)) k7 rfl
 have k15:=Blk.other (Blk.below hk (bt (bt b2 b4) b6)) g11 hne14
 refine nl (sq (sg (xr0 1 [(11,.iface 131 (.agg #[.slice D n d,i6 k]))] [1,10] ?_)))
 refine nl (bk (sg (xr0 3 [(13,bF)] [] ?_)))
 refine nl (cf (sg (xe0 7 [(0,pw g 0),(5,pw w3.heap.size 0),(22,bF)] ?_)))
 refine nl (cf (sk (sq (sq (X_still (by kernel_rfl) (by kernel_rfl) (fun wd16 b17 h18=>?_))))))
 refine xsC 7 [(25,.load (i6 k)),(29,.load (i6 b)),(30,.eq (i6 (1099511627776-b)))] [(25,i6 k),(30,i6 (1099511627776-b))] [22] [_,_,_] ⟨lc 3 (Blk.below k12 b17) 0,lc 3 (Blk.below k15 b17) 0,w6 (1099511627776-b),trivial⟩ ?_
 by_cases c19:k>1099511627776-b
 ·refine xsC 11 [(31,.eq bT)] [(41,bT)] [25,30] [_] ⟨dT c19,trivial⟩ ?_
  refine XS_nil ?_
  refine ct (sg (xe0 1 [(4,bF)] ?_))
  refine nl (X_ret (rj [bF] hR_ ?_))
  exact⟨((((((Two.refl g none w).below b2).below b4).below b6).grown g11 (fun x_ e_=>.inr (.inr (by injection e_ with e_; have h_:=(Nat.le_trans b2.size b4.size); omega)))).below b17),.inr ⟨rfl,by omega,(Blk.below k15 b17)⟩⟩
 refine xsC 9 [(31,.eq bF),(34,.load (i6 k)),(38,.load (i6 r)),(39,.eq (i6 (1099511627776-r)))] [(32,bF),(34,i6 k),(39,i6 (1099511627776-r))] [25,30] [_,_,_,_] ⟨dF c19,lc 3 (Blk.below k12 b17) 1,lc 3 (Blk.below k15 b17) 1,w6 (1099511627776-r),trivial⟩ ?_
 by_cases c20:k>1099511627776-r
 ·refine xsC 2 [(40,.eq bT)] [(41,bT)] [32,34,39] [_] ⟨dT c20,trivial⟩ ?_
  refine XS_nil ?_
  refine ct (sg (xe0 1 [(4,bF)] ?_))
  refine nl (X_ret (rj [bF] hR_ ?_))
  exact⟨((((((Two.refl g none w).below b2).below b4).below b6).grown g11 (fun x_ e_=>.inr (.inr (by injection e_ with e_; have h_:=(Nat.le_trans b2.size b4.size); omega)))).below b17),.inr ⟨rfl,by omega,(Blk.below k15 b17)⟩⟩
 refine xsC 2 [(40,.eq bF)] [(41,bF)] [32,34,39] [_] ⟨dF c20,trivial⟩ ?_
 refine XS_nil ?_
 refine cf (sk (sq (X_any [9] 10 (tf 0 10) (by kernel_rfl) (by kernel_rfl) (by kernel_rfl) (fun wd21 b22 h23=>?_))))
 refine XA_runC (fuel':=1) [0,1,2,3,4,5,6,7,8] [(45,.load (i6 b)),(47,.load (i6 k)),(48,.eq (i6 (b+k)))] [pw g 0,pw g 0,pw g 0,i6 b,pw w3.heap.size 0,i6 k,i6 (b+k),pw g 0,pw g 0] (tf 9 1) [(48,i6 (b+k)),(50,pw g 0)] [41] [la 3 (⟨g,0,none⟩) (i6 b) wd21,la 3 (⟨w3.heap.size,0,none⟩) (i6 k) wd21,i6 (IntKind.i64.wrap (b+k))=i6 (b+k)] ⟨loads1 rfl (Blk.cell (Blk.below k15 (bt b17 b22)) 0 _ rfl),loads1 rfl (Blk.cell (Blk.below k12 (bt b17 b22)) 0 _ rfl),wr_i64 (by omega) (by omega),trivial⟩ ?_
 refine XA_act (fuel':=0) 9 (tf 10 0) _ rfl (by kernel_rfl) rfl (by kernel_rfl) rfl ?_
 refine xst (i6 (b+k)) (Blk.below k15 (bt b17 b22)) 0 #[i6 (b+k),i6 r,sl,gn] (fun w24 g25 k26 z27=>?_)
 have hne28:w3.heap.size≠g:=Blk.tne (Blk.below k12 (bt b17 b22)) (Blk.below k15 (bt b17 b22)) rfl
 have k29:=Blk.other (Blk.below k12 (bt b17 b22)) g25 hne28
 refine nl (XA_done (by kernel_rfl) ?_)
 refine sq (X_any [9] 10 (tf 0 10) (by kernel_rfl) (by kernel_rfl) (by kernel_rfl) (fun wd30 b31 h32=>?_))
 refine XA_runC (fuel':=1) [0,1,2,3,4,5,6,7,8] [(54,.load (i6 r)),(56,.load (i6 k)),(57,.eq (i6 (r+k)))] [pw g 0,pw g 0,pw g 1,i6 r,pw w3.heap.size 1,i6 k,i6 (r+k),pw g 0,pw g 1] (tf 9 1) [(57,i6 (r+k)),(59,pw g 1)] [0,5,48,50] [la 3 (⟨g,1,none⟩) (i6 r) wd30,la 3 (⟨w3.heap.size,1,none⟩) (i6 k) wd30,i6 (IntKind.i64.wrap (r+k))=i6 (r+k)] ⟨loads1 rfl (Blk.cell (Blk.below k26 b31) 1 _ rfl),loads1 rfl (Blk.cell (Blk.below k29 b31) 1 _ rfl),wr_i64 (by omega) (by omega),trivial⟩ ?_
 refine XA_act (fuel':=0) 9 (tf 10 0) _ rfl (by kernel_rfl) rfl (by kernel_rfl) rfl ?_
 refine xst (i6 (r+k)) (Blk.below k26 b31) 1 #[i6 (b+k),i6 (r+k),sl,gn] (fun w33 g34 k35 z36=>?_)
 refine nl (XA_done (by kernel_rfl) ?_)
 refine sg (xe0 1 [(4,bT)] ?_)
 refine nl (X_ret (rj [bT] hR_ ?_))
 have hkz_:=k35
 exact⟨((((((((((Two.refl g none w).below b2).below b4).below b6).grown g11 (fun x_ e_=>.inr (.inr (by injection e_ with e_; have h_:=(Nat.le_trans b2.size b4.size); omega)))).below b17).below b22).store g25).below b31).store g34),.inl ⟨rfl,by omega,by omega,hkz_⟩⟩
set_option maxHeartbeats 1000000 in
theorem badd_del (k:Int)(g:Nat)(b r:Int)(sl gn:Value)(w:World)(hk:RX.Blk w g 119 #[i6 b,i6 r,sl,gn])(hb:0≤b∧b≤1099511627776)(hr:0≤r∧r≤1099511627776)(hkb:0≤k∧k≤1099511627776):Calls Tryz.prog 61 #[pw g 0,.iface 126 (.agg #[i6 k])] w fun e w'=>
  Two g none w w'∧((e=.returned bT∧b+k≤1099511627776∧r+0≤1099511627776∧RX.Blk w' g 119 #[i6 (b+k),i6 (r+0),sl,gn])∨(e=.returned bF∧(1099511627776<b+k∨1099511627776<r+0)∧RX.Blk w' g 119 #[i6 b,i6 r,sl,gn])):=by
 refine en Tryz.func61 rfl 60 [(0,pw g 0),(1,.iface 126 (.agg #[i6 k]))] (fun R_ hR_=>?_)
 refine sg (xe0 1 [(0,pw g 0),(1,.iface 126 (.agg #[i6 k]))] ?_)
 refine nl (sg (xr0 1 [(6,.iface 126 (.agg #[i6 k]))] [] ?_))
 refine XL_inv 141 #[.agg #[i6 k]] rfl rfl (by kernel_rfl) (by kernel_rfl) (deleteLen_any _ _) ?_
 rintro e w1 ⟨rfl,b2⟩; refine⟨_,rfl,?_⟩
 refine xr0 1 [(7,i6 k),(8,.iface 126 (.agg #[i6 k]))] [6] ?_
 refine XL_inv 141 #[.agg #[i6 k]] rfl rfl (by kernel_rfl) (by kernel_rfl) (deleteLen_any _ _) ?_
 rintro e w3 ⟨rfl,b4⟩; refine⟨_,rfl,?_⟩
 refine xw 2 [] [(5,pw w3.heap.size 0),(10,.agg #[i6 k,i6 k])] [7,8,9] (w3.alloc (.cells #[i6 0,i6 0] 117)) [] trivial ?_
 obtain⟨w_5,w9,b6,k7,z8⟩:=new_world w3 #[i6 0,i6 0] 117
 rw[w9]
 refine xst (.agg #[i6 k,i6 k]) k7 0 #[i6 k,i6 k] (fun w10 g11 k12 z13=>?_)
 have hne14:g≠w3.heap.size:=Blk.tne (Blk.below hk (bt (bt b2 b4) b6)) k7 rfl
 have k15:=Blk.other (Blk.below hk (bt (bt b2 b4) b6)) g11 hne14
 refine nl (sq (sg (xr0 1 [(11,.iface 126 (.agg #[i6 k]))] [1,10] ?_)))
 refine nl (bk (sg (xr0 3 [(13,bT)] [] ?_)))
 refine nl (ct (rg (xe0 1 [(0,pw g 0),(5,pw w3.heap.size 0),(15,pw w3.heap.size 1)] ?_)))
 refine xst (i6 0) k12 1 #[i6 k,i6 0] (fun w16 g17 k18 z19=>?_)
 have k20:=Blk.other k15 g17 hne14
 refine nl (sq (sq (X_still (by kernel_rfl) (by kernel_rfl) (fun wd21 b22 h23=>?_))))
 refine xsC 7 [(25,.load (i6 k)),(29,.load (i6 b)),(30,.eq (i6 (1099511627776-b)))] [(25,i6 k),(30,i6 (1099511627776-b))] [15] [_,_,_] ⟨lc 3 (Blk.below k18 b22) 0,lc 3 (Blk.below k20 b22) 0,w6 (1099511627776-b),trivial⟩ ?_
 by_cases c24:k>1099511627776-b
 ·refine xsC 11 [(31,.eq bT)] [(41,bT)] [25,30] [_] ⟨dT c24,trivial⟩ ?_
  refine XS_nil ?_
  refine ct (sg (xe0 1 [(4,bF)] ?_))
  refine nl (X_ret (rj [bF] hR_ ?_))
  exact⟨(((((((Two.refl g none w).below b2).below b4).below b6).grown g11 (fun x_ e_=>.inr (.inr (by injection e_ with e_; have h_:=(Nat.le_trans b2.size b4.size); omega)))).grown g17 (fun x_ e_=>.inr (.inr (by injection e_ with e_; have h_:=(Nat.le_trans b2.size b4.size); omega)))).below b22),.inr ⟨rfl,by omega,(Blk.below k20 b22)⟩⟩
 refine xsC 9 [(31,.eq bF),(34,.load (i6 0)),(38,.load (i6 r)),(39,.eq (i6 (1099511627776-r)))] [(32,bF),(34,i6 0),(39,i6 (1099511627776-r))] [25,30] [_,_,_,_] ⟨dF c24,lc 3 (Blk.below k18 b22) 1,lc 3 (Blk.below k20 b22) 1,w6 (1099511627776-r),trivial⟩ ?_
 by_cases c25:(0:Int)>1099511627776-r
 ·exfalso; omega
 refine xsC 2 [(40,.eq bF)] [(41,bF)] [32,34,39] [_] ⟨dF c25,trivial⟩ ?_
 refine XS_nil ?_
 refine cf (sk (sq (X_any [9] 10 (tf 0 10) (by kernel_rfl) (by kernel_rfl) (by kernel_rfl) (fun wd26 b27 h28=>?_))))
 refine XA_runC (fuel':=1) [0,1,2,3,4,5,6,7,8] [(45,.load (i6 b)),(47,.load (i6 k)),(48,.eq (i6 (b+k)))] [pw g 0,pw g 0,pw g 0,i6 b,pw w3.heap.size 0,i6 k,i6 (b+k),pw g 0,pw g 0] (tf 9 1) [(48,i6 (b+k)),(50,pw g 0)] [41] [la 3 (⟨g,0,none⟩) (i6 b) wd26,la 3 (⟨w3.heap.size,0,none⟩) (i6 k) wd26,i6 (IntKind.i64.wrap (b+k))=i6 (b+k)] ⟨loads1 rfl (Blk.cell (Blk.below k20 (bt b22 b27)) 0 _ rfl),loads1 rfl (Blk.cell (Blk.below k18 (bt b22 b27)) 0 _ rfl),wr_i64 (by omega) (by omega),trivial⟩ ?_
 refine XA_act (fuel':=0) 9 (tf 10 0) _ rfl (by kernel_rfl) rfl (by kernel_rfl) rfl ?_
 refine xst (i6 (b+k)) (Blk.below k20 (bt b22 b27)) 0 #[i6 (b+k),i6 r,sl,gn] (fun w29 g30 k31 z32=>?_)
 have hne33:w3.heap.size≠g:=Blk.tne (Blk.below k18 (bt b22 b27)) (Blk.below k20 (bt b22 b27)) rfl
 have k34:=Blk.other (Blk.below k18 (bt b22 b27)) g30 hne33
 refine nl (XA_done (by kernel_rfl) ?_)
 refine sq (X_any [9] 10 (tf 0 10) (by kernel_rfl) (by kernel_rfl) (by kernel_rfl) (fun wd35 b36 h37=>?_))
 refine XA_runC (fuel':=1) [0,1,2,3,4,5,6,7,8] [(54,.load (i6 r)),(56,.load (i6 0)),(57,.eq (i6 (r+0)))] [pw g 0,pw g 0,pw g 1,i6 r,pw w3.heap.size 1,i6 0,i6 (r+0),pw g 0,pw g 1] (tf 9 1) [(57,i6 (r+0)),(59,pw g 1)] [0,5,48,50] [la 3 (⟨g,1,none⟩) (i6 r) wd35,la 3 (⟨w3.heap.size,1,none⟩) (i6 0) wd35,i6 (IntKind.i64.wrap (r+0))=i6 (r+0)] ⟨loads1 rfl (Blk.cell (Blk.below k31 b36) 1 _ rfl),loads1 rfl (Blk.cell (Blk.below k34 b36) 1 _ rfl),wr_i64 (by omega) (by omega),trivial⟩ ?_
 refine XA_act (fuel':=0) 9 (tf 10 0) _ rfl (by kernel_rfl) rfl (by kernel_rfl) rfl ?_
 refine xst (i6 (r+0)) (Blk.below k31 b36) 1 #[i6 (b+k),i6 (r+0),sl,gn] (fun w38 g39 k40 z41=>?_)
 refine nl (XA_done (by kernel_rfl) ?_)
 refine sg (xe0 1 [(4,bT)] ?_)
 refine nl (X_ret (rj [bT] hR_ ?_))
 have hkz_:=k40
 exact⟨(((((((((((Two.refl g none w).below b2).below b4).below b6).grown g11 (fun x_ e_=>.inr (.inr (by injection e_ with e_; have h_:=(Nat.le_trans b2.size b4.size); omega)))).grown g17 (fun x_ e_=>.inr (.inr (by injection e_ with e_; have h_:=(Nat.le_trans b2.size b4.size); omega)))).below b22).below b27).store g30).below b36).store g39),.inl ⟨rfl,by omega,by omega,hkz_⟩⟩
noncomputable def pushE (b r:Int) (o:OpA):Nat:=if pErr o≠0 then pErr o else if 1099511627776<b+opB o∨1099511627776<r+opR o then 11 else 0
theorem pushE_bad {b r:Int}{o:OpA}(h:pErr o≠0):pushE b r o=pErr o:=if_pos h
theorem pushE_long {b r:Int}{o:OpA}(h:pErr o=0)(h2:1099511627776<b+opB o∨1099511627776<r+opR o):pushE b r o=11:=by unfold pushE; rw[if_neg (by omega),if_pos h2]
theorem pushE_ok {b r:Int}{o:OpA}(h:pErr o=0)(h2:b+opB o≤1099511627776)(h3:r+opR o≤1099511627776):pushE b r o=0:=by unfold pushE; rw[if_neg (by omega),if_neg (by omega)]
theorem step_del {s:B.St}{o:OpA}(h:o.kind=4):B.step s o=(s.1,s.2+o.count):=if_pos h
theorem step_ret {s:B.St}{o:OpA}(h:o.kind=3):B.step s o=(B.push (B.dels s.1 s.2) o,0):=by unfold B.step; rw[if_neg (by omega),if_pos h]
theorem step_ins {s:B.St}{o:OpA}(h:o.kind=1∨o.kind=2):B.step s o=(B.push s.1 o,s.2):=by unfold B.step; rw[if_neg (by omega),if_neg (by omega)]
theorem of_one {o:OpA}(h:pErr o=0):ofP [o]=[pOf o]∧badI [o]=0∧badE [o]=0:=by
 have hb:badE [o]=0:=by unfold badE badE; rw[if_neg (by omega)]
 exact⟨ofP_ok hb,badI_none hb,hb⟩
theorem attr_C_one {w:World}{A:Option Addr}{c:Nat}{o:OpA}(hl:o.attrs.length≤c)(hC:kAttr.C w A o.attrs.length o.attrs):kOp.K w o (o7L o (.slice A o.attrs.length c)):=kOp_K_of hl hC
theorem dels_len (ps:List OpA)(n:Int):(B.dels ps n).length≤ps.length+1:=by unfold B.dels; split<;>simp<;>omega
theorem dels_ok2 {ps:List OpA}{n:Int}(hb:badE ps=0)(h0:0≤n)(h1:n≤1099511627776):badE (B.dels ps n)=0:=by
 unfold B.dels
 split
 ·exact hb
 exact B.bad_snoc.2 ⟨hb,B.ok_gone (by omega) h1⟩
theorem dels_txt {ps:List OpA}{n:Int}{K:Nat}(h:(B.lst ps).text.size≤K):(B.lst (B.dels ps n)).text.size≤K:=by
 unfold B.dels
 split
 ·exact h
 rw[B.lst_snoc]; exact Nat.zero_le _
def PushO (ok:Nat→Prop)(es:List Addr)(wB:World)(g:Nat)(b r:Int)(s:B.St)(A:Option Addr)(c:Nat)(w:World)(o:OpA)(e:Ending)(w':World):Prop:=
 Two g (A.map (·.block)) w w'∧((pushE b r o=0∧e=.returned .nilIface∧∃ A' c',RX.Blk w' g 119 #[i6 (b+opB o),i6 (r+opR o),.slice A' (List.map pOf ((B.step s o).1)).length c',i6 ((B.step s o).2)]∧kPiece.R 123 w' wB.heap.size ok (aL A' (List.map pOf ((B.step s o).1)) c') (List.map pOf ((B.step s o).1))∧(A'.map (·.block)=A.map (·.block)∨∃ b,A'.map (·.block)=some b∧w.heap.size≤b))∨(pushE b r o≠0∧e=.returned (errV es (pushE b r o))∧RX.Blk w' g 119 #[i6 b,i6 r,.slice A (List.map pOf s.1).length c,i6 s.2]∧kPiece.R 123 w' wB.heap.size ok (aL A (List.map pOf s.1) c) (List.map pOf s.1)))
abbrev PushR (es:List Addr)(wB:World):=PushO (OkFrom wB.heap.size) es wB
set_option maxHeartbeats 4000000 in
theorem pushO_any (o:OpA)(Ao:Option Addr)(co:Nat){ok:Nat→Prop}(wB:World)(g:Nat)(b r:Int)(s:B.St)(A:Option Addr)(c:Nat)(w:World)(hB0:Below wB.heap.size wB w)(hgB:wB.heap.size≤g)(hk:RX.Blk w g 119 #[i6 b,i6 r,.slice A (List.map pOf s.1).length c,i6 s.2])(hR:kPiece.R 123 w wB.heap.size ok (.slice A (List.map pOf s.1).length c) (List.map pOf s.1))(hok:∀ k,w.heap.size≤k→ok k)(hb:0≤b∧b≤1099511627776)(hr:0≤r∧r≤1099511627776)(hs2:0≤s.2∧s.2≤1099511627776)(hbd:badE s.1=0)(hl:s.1.length≤100000000)(hlt:(B.lst s.1).text.size≤1000000000)(hAo:kAttr.C w Ao o.attrs.length o.attrs)(hco:o.attrs.length≤co)(hz:opSz o)(hT:Tabs wB)(es:List Addr)(hE:ErrsO wB es):
  Calls Tryz.prog 46 #[pw g 0,.agg (o7A o (aL Ao o.attrs co))] w fun e w'=>PushO ok es wB g b r s A c w o e w':=by
 have hls:=dels_len s.1 s.2
 have hscl:=U.sc_le o.text
 have hz1:=hz.1
 refine en Tryz.func46 rfl 84 [(0,pw g 0),(1,.agg (o7A o (aL Ao o.attrs co)))] (fun R_ hR_=>?_)
 refine sg (xwe 1 [] [(0,pw g 0),(3,pw w.heap.size 0)] (w.alloc (.cells (o7A o (aL Ao o.attrs co)) 70)) [] trivial ?_)
 obtain⟨w1,w5,b2,k3,z4⟩:=new_world w (o7A o (aL Ao o.attrs co)) 70
 rw[w5]
 refine xr0 1 [] [] ?_
 refine nl (sq (sg (xr 1 [(14,.load (.agg (o7A o (aL Ao o.attrs co))))] [(14,.agg (o7A o (aL Ao o.attrs co)))] [] [la 70 (⟨w.heap.size,0,none⟩) (.agg (o7A o (aL Ao o.attrs co))) w1] ⟨loadsB rfl rfl k3 0 ⟨by kernel_rfl,by kernel_rfl⟩,trivial⟩ ?_)))
 refine xc 59 ent59 [.agg (o7A o (aL Ao o.attrs co))] (ocheck_any o _ _ _ (Kd.C_below hAo b2) hz (hT.below (bt hB0 b2)) es (hE.below (bt hB0 b2))) ?_
 rintro e w_6 ⟨rfl,b7⟩; refine⟨_,rfl,?_⟩
 refine xr0 1 [(5,errV es (pErr o))] [14,15] ?_
 refine nl (sg (xr0 1 [(16,errV es (pErr o))] [] ?_))
 by_cases c8:(pErr o)=0
 ·rw[show errV es (pErr o)=.nilIface from by rw[c8]; rfl]
  refine xr0 1 [(5,.nilIface),(17,bF)] [16] ?_
  refine nl (cf (sk (sg (xwe 2 [(20,.load (.agg (o7A o (aL Ao o.attrs co))))] [(0,pw g 0),(21,.slice (some ⟨w_6.heap.size,0,none⟩) 1 1)] (w_6.alloc (.cells (o7A o (aL Ao o.attrs co)) 70)) [la 70 (⟨w.heap.size,0,none⟩) (.agg (o7A o (aL Ao o.attrs co))) w_6] ⟨loadsB rfl rfl (Blk.below k3 b7) 0 ⟨by kernel_rfl,by kernel_rfl⟩,trivial⟩ ?_))))
  obtain⟨w_9,w13,b10,k11,z12⟩:=new_world w_6 (o7A o (aL Ao o.attrs co)) 70
  rw[w13]
  have R14:=Kd.R_litB (kRaw 7) (W:=w_6) (e:=70) (cs:=(o7A o (aL Ao o.attrs co))) [(o7L o (aL Ao o.attrs co))] k11 (reps_raw [(o7L o (aL Ao o.attrs co))] (by kernel_rfl)) (Nat.le_of_ble_eq_true (by kernel_rfl))
  have C15:kOp.C w_9 (some ⟨w_6.heap.size,0,none⟩) 1 [o]:=C_lit1 (Kd.R_C R14) (attr_C_one hco (Kd.C_below hAo (bt (bt b2 b7) b10)))
  obtain⟨hof1,hof2,hof3⟩:=of_one c8
  refine xc 60 ent60 [.slice (some ⟨w_6.heap.size,0,none⟩) 1 1] (of_any _ _ [o] _ C15 (Nat.le_of_ble_eq_true rfl) (fun i_ hi_=>by obtain rfl:i_=0:=(by simp only[List.length_cons,List.length_nil]at hi_; omega); exact hz) (hT.below (bt (bt (bt hB0 b2) b7) b10)) es (hE.below (bt (bt (bt hB0 b2) b7) b10))) ?_
  rintro e w19 ⟨A16,c17,rfl,r18,b20⟩; refine⟨_,rfl,?_⟩
  rw[hof1]at r18 ⊢; rw[hof2,hof3]
  replace r18:kPiece.R 123 w19 w_9.heap.size (OkFrom w_9.heap.size) (.slice A16 1 c17) [pOf o]:=r18
  rw[errV_zero]
  refine xr0 7 [(6,.slice A16 1 c17),(8,.nilIface)] [21,22] ?_
  refine nl (sq (sg (xr0 2 [(27,bF)] [] ?_)))
  refine nl (cf (sk (sg (xr0 1 [(29,.slice A16 1 c17)] [6,8,27] ?_))))
  obtain⟨ad22,cs25,a23,M26,hc24⟩:=Kd.R_at piece0 r18 (i:=(0:Int)) (by decide) (by decide)
  obtain⟨v27,rfl⟩:=kPiece_one M26
  replace hc24:CellsAt w19 (ad22.add ((0:Int).toNat*1)) [v27]:=hc24
  refine xr 1 [(30,.idx ad22)] [(30,.pointer (some (ad22.add ((0:Int).toNat*1))))] [29] [A16=some ad22,(0:Int)≤0,0<(1:Int)] ⟨a23,(by decide),(by decide),trivial⟩ ?_
  replace M26:kPiece.M w19 w_9.heap.size (fun k=>OkFrom w_9.heap.size k∧some k≠A16.map (·.block)) (pOf o) [v27]:=M26
  have hcn:=fun hk_=>count_of_ok c8 hk_
  rcases kind_of_ok c8 with hk1|hk1|hk1|hk1
  ·rw[pOf_ins hk1]at M26
   obtain⟨A29,c30,e31,l32,R33⟩:=kPiece_insM M26
   obtain rfl:=(List.cons.inj e31).1
   replace R33:=Kd.R_mono R33 (fun _ h_=>h_.1)
   have hob:opB o=0:=B.opB_ins (.inl hk1)
   have hor:opR o=((U.sc o.text).length:Int):=B.opR_txt hk1
   refine xr 2 [(31,.load (.iface 153 (.agg #[.slice A29 o.attrs.length c30,sT o.text,i6 ((U.sc o.text).length:Int)])))] [(9,.iface 153 (.agg #[.slice A29 o.attrs.length c30,sT o.text,i6 ((U.sc o.text).length:Int)]))] [30] [la 123 (ad22.add ((0:Int).toNat*1)) (.iface 153 (.agg #[.slice A29 o.attrs.length c30,sT o.text,i6 ((U.sc o.text).length:Int)])) w19] ⟨loads1 rfl (elem_cell hc24 0 _ rfl),trivial⟩ ?_
   refine nl (sq (sg (xe0 4 [(0,pw g 0),(9,.iface 153 (.agg #[.slice A29 o.attrs.length c30,sT o.text,i6 ((U.sc o.text).length:Int)])),(34,pw g 0),(35,.iface 153 (.agg #[.slice A29 o.attrs.length c30,sT o.text,i6 ((U.sc o.text).length:Int)]))] ?_)))
   refine xc 61 ent61 [pw g 0,.iface 153 (.agg #[.slice A29 o.attrs.length c30,sT o.text,i6 ((U.sc o.text).length:Int)])] (badd_ins _ _ _ _ _ g b r _ _ _ (Blk.below hk (bt (bt (bt b2 b7) b10) b20)) hb hr (by omega)) ?_
   rintro e w34 ⟨t36,⟨rfl,h1_37,h2_38,k35⟩|⟨rfl,h1_37,k35⟩⟩
   ·refine⟨_,rfl,?_⟩
    have g39:=Two.toGrown t36
    have r40:=Kd.R_off R33 (Blk.below hk (bt (bt (bt b2 b7) b10) b20)) (by decide) g39
    have r42:=Kd.R_off (Kd.R_below hR (bt (bt (bt b2 b7) b10) b20)) (Blk.below hk (bt (bt (bt b2 b7) b10) b20)) (by decide) g39
    have k43:RX.Blk w34 g 119 #[i6 (b+opB o),i6 (r+opR o),.slice A ((List.map pOf s.1).length) c,i6 s.2]:=by rw[hob,hor]; exact k35
    have hpe0:=pushE_ok (b:=b) (r:=r) c8 (by omega) (by omega)
    refine xr0 1 [(37,bF)] [34,35,36] ?_
    refine nl (cf (sk (sq (sg (xw 6 [] [(10,pw w34.heap.size 0),(42,.agg #[i6 0]),(43,bF)] [37] (w34.alloc (.cells #[i6 0] 126)) [] trivial ?_)))))
    obtain⟨w44,w48,b45,k46,z47⟩:=new_world w34 #[i6 0] 126
    rw[w48]
    refine xst (.agg #[i6 0]) k46 0 #[i6 0] (fun w49 g50 k51 z52=>?_)
    have hne53:g≠w34.heap.size:=Blk.tne (Blk.below k43 b45) k46 rfl
    have k54:=Blk.other (Blk.below k43 b45) g50 hne53
    have r55:=Kd.R_off (Kd.R_below r40 b45) k46 (by decide) g50
    have r57:=Kd.R_off (Kd.R_below r42 b45) k46 (by decide) g50
    refine xr0 1 [(11,bF)] [10,42,43] ?_
    refine nl (sg (xr0 1 [(44,bF)] [11] ?_))
    refine nl (cf (sk (sq (sg (xw 6 [] [(12,pw w49.heap.size 0),(57,.agg #[.slice none 0 0,i6 0]),(58,bF)] [44] (w49.alloc (.cells #[.slice none 0 0,i6 0] 131)) [] trivial ?_)))))
    obtain⟨w58,w62,b59,k60,z61⟩:=new_world w49 #[.slice none 0 0,i6 0] 131
    rw[w62]
    refine xst (.agg #[.slice none 0 0,i6 0]) k60 0 #[.slice none 0 0,i6 0] (fun w63 g64 k65 z66=>?_)
    have hne67:g≠w49.heap.size:=Blk.tne (Blk.below k54 b59) k60 rfl
    have k68:=Blk.other (Blk.below k54 b59) g64 hne67
    have r71:=Kd.R_off (Kd.R_below r55 b59) k60 (by decide) g64
    have r73:=Kd.R_off (Kd.R_below r57 b59) k60 (by decide) g64
    refine xe0 1 [(0,pw g 0),(9,.iface 153 (.agg #[.slice A29 o.attrs.length c30,sT o.text,i6 ((U.sc o.text).length:Int)])),(13,bF)] ?_
    refine nl (sg (xr0 1 [(59,bF)] [13] ?_))
    refine nl (cf (sk (sg (xe1 6 [(79,.load (aL A (List.map pOf s.1) c))] [(75,pw g 0),(79,aL A (List.map pOf s.1) c),(80,.iface 153 (.agg #[.slice A29 o.attrs.length c30,sT o.text,i6 ((U.sc o.text).length:Int)]))] (lc 82 k68 2) ?_))))
    have B82:Below wB.heap.size wB w34:=(bg (bt (bt (bt (bt hB0 b2) b7) b10) b20) g39 hgB)
    have B83:Below wB.heap.size wB w63:=(bg (bt (bg (bt (bg (bt (bt (bt (bt hB0 b2) b7) b10) b20) g39 hgB) b45) g50 (B82).size) b59) g64 ((bg (bt B82 b45) g50 (B82).size)).size)
    refine xc 63 ent63 [.slice A ((List.map pOf s.1).length) c,.iface 153 (.agg #[.slice A29 o.attrs.length c30,sT o.text,i6 ((U.sc o.text).length:Int)])] (bjoined_ins _ _ s.1 o _ _ wB _ (B83).size hk1 c8 hbd r73 (fun k_ h_=>hok k_ (Nat.le_trans (Nat.le_trans (Nat.le_trans (Nat.le_trans (Nat.le_trans (Nat.le_trans (Nat.le_trans (Nat.le_trans (Nat.le_trans b2.size b7.size) b10.size) b20.size) g39.size) b45.size) g50.size) b59.size) g64.size) h_)) (by omega) (Kd.R_C r71) (pm_eq (pOf_ins hk1) (kPiece_Mins ⟨_,rfl,(Kd.R_mono (Kd.R_lower r71 ((bt (bt (bt hB0 b2) b7) b10)).size) (fun k_ h_=>hok k_ (Nat.le_trans (Nat.le_trans (Nat.le_trans b2.size b7.size) b10.size) h_)))⟩)) (by omega) hlt) ?_
    rintro e w76 ⟨A74,c75,rfl,r77,g78,hat79⟩; refine⟨_,rfl,?_⟩
    have l80:=Kd.R_ge r73
    have hne81:=Kd.R_blk_ne r73 k68 rfl
    have hat84:=atc_new (Nat.le_trans (Nat.le_trans (Nat.le_trans (Nat.le_trans (Nat.le_trans (Nat.le_trans (Nat.le_trans (Nat.le_trans b2.size b7.size) b10.size) b20.size) g39.size) b45.size) g50.size) b59.size) g64.size) (.inl rfl) hat79
    have k86:=Blk.ne k68 g78 hne81
    refine xe0 2 [(81,aL A74 (List.map pOf (B.push s.1 o)) c75),(83,pw g 2)] ?_
    refine xst (aL A74 (List.map pOf (B.push s.1 o)) c75) k86 2 #[i6 (b+opB o),i6 (r+opR o),.slice A74 ((List.map pOf (B.push s.1 o)).length) c75,i6 s.2] (fun w91 g92 k93 z94=>?_)
    have r100:=Kd.R_off r77 k86 (by decide) g92
    refine nl (sg (xe0 1 [(4,.nilIface)] ?_))
    refine nl (X_ret (rj [.nilIface] hR_ ?_))
    unfold PushO
    rw[step_ins (.inl hk1)]
    exact⟨((((((((((((Two.refl g (A.map (·.block)) w).below b2).below b7).below b10).below b20).store g39).below b45).grown g50 (fun x_ e_=>.inr (.inr (by injection e_ with e_; have h_:=(Nat.le_trans (Nat.le_trans (Nat.le_trans (Nat.le_trans b2.size b7.size) b10.size) b20.size) g39.size); omega)))).below b59).grown g64 (fun x_ e_=>.inr (.inr (by injection e_ with e_; have h_:=(Nat.le_trans (Nat.le_trans (Nat.le_trans (Nat.le_trans (Nat.le_trans (Nat.le_trans b2.size b7.size) b10.size) b20.size) g39.size) b45.size) g50.size); omega)))).row g78 (.inl rfl)).store g92),.inl ⟨hpe0,rfl,A74,c75,k93,r100,hat84⟩⟩
   refine⟨_,rfl,?_⟩
   have g101:=Two.toGrown t36
   have r104:=Kd.R_off (Kd.R_below hR (bt (bt (bt b2 b7) b10) b20)) (Blk.below hk (bt (bt (bt b2 b7) b10) b20)) (by decide) g101
   have hpe0:=pushE_long (b:=b) (r:=r) c8 (by omega)
   refine xr0 1 [(37,bT)] [34,35,36] ?_
   refine nl (ct (sq (X_region ?_)))
   have B105:Below wB.heap.size wB w34:=(bg (bt (bt (bt (bt hB0 b2) b7) b10) b20) g101 hgB)
   refine xe 2 [(38,.load (.iface 208 (.pointer (some (errAt es 11)))))] [(4,.iface 208 (.pointer (some (errAt es 11))))] [la 45 (⟨3,0,none⟩) (.iface 208 (.pointer (some (errAt es 11)))) w34] ⟨loads1 rfl ((B105.cell (World.block_lt_of_cell? _ _ (hE.load 11 3 (by decide) (by decide) rfl))).trans (hE.load 11 3 (by decide) (by decide) rfl)),trivial⟩ ?_
   refine nl (X_ret (rj [.iface 208 (.pointer (some (errAt es 11)))] hR_ ?_))
   exact⟨((((((Two.refl g (A.map (·.block)) w).below b2).below b7).below b10).below b20).store g101),.inr ⟨by rw[hpe0]; decide,by rw[hpe0]; rfl,k35,r104⟩⟩
  ·rw[pOf_emb hk1]at M26
   obtain⟨A106,c107,e108,l109,R110⟩:=kPiece_embM M26
   obtain rfl:=(List.cons.inj e108).1
   replace R110:=Kd.R_mono R110 (fun _ h_=>h_.1)
   have hval:o.val=(o.vk,o.vn,o.vt):=rfl
   rw[hval]at hc24
   have hob:opB o=0:=B.opB_ins (.inr hk1)
   have hor:opR o=1:=B.opR_emb hk1
   refine xr 2 [(31,.load (.iface 157 (.agg #[.slice A106 o.attrs.length c107,sT o.text,valV (o.vk,o.vn,o.vt)])))] [(9,.iface 157 (.agg #[.slice A106 o.attrs.length c107,sT o.text,valV (o.vk,o.vn,o.vt)]))] [30] [la 123 (ad22.add ((0:Int).toNat*1)) (.iface 157 (.agg #[.slice A106 o.attrs.length c107,sT o.text,valV (o.vk,o.vn,o.vt)])) w19] ⟨loads1 rfl (elem_cell hc24 0 _ rfl),trivial⟩ ?_
   refine nl (sq (sg (xe0 4 [(0,pw g 0),(9,.iface 157 (.agg #[.slice A106 o.attrs.length c107,sT o.text,valV (o.vk,o.vn,o.vt)])),(34,pw g 0),(35,.iface 157 (.agg #[.slice A106 o.attrs.length c107,sT o.text,valV (o.vk,o.vn,o.vt)]))] ?_)))
   refine xc 61 ent61 [pw g 0,.iface 157 (.agg #[.slice A106 o.attrs.length c107,sT o.text,valV (o.vk,o.vn,o.vt)])] (badd_emb _ _ _ _ _ g b r _ _ _ (Blk.below hk (bt (bt (bt b2 b7) b10) b20)) hb hr) ?_
   rintro e w111 ⟨t113,⟨rfl,h1_114,h2_115,k112⟩|⟨rfl,h1_114,k112⟩⟩
   ·refine⟨_,rfl,?_⟩
    have g116:=Two.toGrown t113
    have r117:=Kd.R_off R110 (Blk.below hk (bt (bt (bt b2 b7) b10) b20)) (by decide) g116
    have r119:=Kd.R_off (Kd.R_below hR (bt (bt (bt b2 b7) b10) b20)) (Blk.below hk (bt (bt (bt b2 b7) b10) b20)) (by decide) g116
    have k120:RX.Blk w111 g 119 #[i6 (b+opB o),i6 (r+opR o),.slice A ((List.map pOf s.1).length) c,i6 s.2]:=by rw[hob,hor]; exact k112
    have hpe0:=pushE_ok (b:=b) (r:=r) c8 (by omega) (by omega)
    refine xr0 1 [(37,bF)] [34,35,36] ?_
    refine nl (cf (sk (sq (sg (xw 6 [] [(10,pw w111.heap.size 0),(42,.agg #[i6 0]),(43,bF)] [37] (w111.alloc (.cells #[i6 0] 126)) [] trivial ?_)))))
    obtain⟨w121,w125,b122,k123,z124⟩:=new_world w111 #[i6 0] 126
    rw[w125]
    refine xst (.agg #[i6 0]) k123 0 #[i6 0] (fun w126 g127 k128 z129=>?_)
    have hne130:g≠w111.heap.size:=Blk.tne (Blk.below k120 b122) k123 rfl
    have k131:=Blk.other (Blk.below k120 b122) g127 hne130
    have r132:=Kd.R_off (Kd.R_below r117 b122) k123 (by decide) g127
    have r134:=Kd.R_off (Kd.R_below r119 b122) k123 (by decide) g127
    refine xr0 1 [(11,bF)] [10,42,43] ?_
    refine nl (sg (xr0 1 [(44,bF)] [11] ?_))
    refine nl (cf (sk (sq (sg (xw 6 [] [(12,pw w126.heap.size 0),(57,.agg #[.slice none 0 0,i6 0]),(58,bF)] [44] (w126.alloc (.cells #[.slice none 0 0,i6 0] 131)) [] trivial ?_)))))
    obtain⟨w135,w139,b136,k137,z138⟩:=new_world w126 #[.slice none 0 0,i6 0] 131
    rw[w139]
    refine xst (.agg #[.slice none 0 0,i6 0]) k137 0 #[.slice none 0 0,i6 0] (fun w140 g141 k142 z143=>?_)
    have hne144:g≠w126.heap.size:=Blk.tne (Blk.below k131 b136) k137 rfl
    have k145:=Blk.other (Blk.below k131 b136) g141 hne144
    have r148:=Kd.R_off (Kd.R_below r132 b136) k137 (by decide) g141
    have r150:=Kd.R_off (Kd.R_below r134 b136) k137 (by decide) g141
    refine xe0 1 [(0,pw g 0),(9,.iface 157 (.agg #[.slice A106 o.attrs.length c107,sT o.text,valV (o.vk,o.vn,o.vt)])),(13,bF)] ?_
    refine nl (sg (xr0 1 [(59,bF)] [13] ?_))
    refine nl (cf (sk (sg (xe1 6 [(79,.load (aL A (List.map pOf s.1) c))] [(75,pw g 0),(79,aL A (List.map pOf s.1) c),(80,.iface 157 (.agg #[.slice A106 o.attrs.length c107,sT o.text,valV (o.vk,o.vn,o.vt)]))] (lc 82 k145 2) ?_))))
    have B159:Below wB.heap.size wB w111:=(bg (bt (bt (bt (bt hB0 b2) b7) b10) b20) g116 hgB)
    have B160:Below wB.heap.size wB w126:=(bg (bt B159 b122) g127 (B159).size)
    have B161:Below wB.heap.size wB w140:=(bg (bt (bg (bt (bg (bt (bt (bt (bt hB0 b2) b7) b10) b20) g116 hgB) b122) g127 (B159).size) b136) g141 (B160).size)
    refine xc 63 ent63 [.slice A ((List.map pOf s.1).length) c,.iface 157 (.agg #[.slice A106 o.attrs.length c107,sT o.text,valV (o.vk,o.vn,o.vt)])] (bjoined_emb _ _ s.1 o _ _ wB _ (B161).size hk1 c8 hbd r150 (fun k_ h_=>hok k_ (Nat.le_trans (Nat.le_trans (Nat.le_trans (Nat.le_trans (Nat.le_trans (Nat.le_trans (Nat.le_trans (Nat.le_trans (Nat.le_trans b2.size b7.size) b10.size) b20.size) g116.size) b122.size) g127.size) b136.size) g141.size) h_)) (by omega) (Kd.R_C r148) (pm_eq (pOf_emb hk1) (kPiece_Memb ⟨_,rfl,(Kd.R_mono (Kd.R_lower r148 ((bt (bt (bt hB0 b2) b7) b10)).size) (fun k_ h_=>hok k_ (Nat.le_trans (Nat.le_trans (Nat.le_trans b2.size b7.size) b10.size) h_)))⟩)) (by omega) hlt) ?_
    rintro e w153 ⟨A151,c152,rfl,r154,g155,hat156⟩; refine⟨_,rfl,?_⟩
    have l157:=Kd.R_ge r150
    have hne158:=Kd.R_blk_ne r150 k145 rfl
    have hat162:=atc_new (Nat.le_trans (Nat.le_trans (Nat.le_trans (Nat.le_trans (Nat.le_trans (Nat.le_trans (Nat.le_trans (Nat.le_trans b2.size b7.size) b10.size) b20.size) g116.size) b122.size) g127.size) b136.size) g141.size) (.inl rfl) hat156
    have k164:=Blk.ne k145 g155 hne158
    refine xe0 2 [(81,aL A151 (List.map pOf (B.push s.1 o)) c152),(83,pw g 2)] ?_
    refine xst (aL A151 (List.map pOf (B.push s.1 o)) c152) k164 2 #[i6 (b+opB o),i6 (r+opR o),.slice A151 ((List.map pOf (B.push s.1 o)).length) c152,i6 s.2] (fun w169 g170 k171 z172=>?_)
    have r178:=Kd.R_off r154 k164 (by decide) g170
    refine nl (sg (xe0 1 [(4,.nilIface)] ?_))
    refine nl (X_ret (rj [.nilIface] hR_ ?_))
    unfold PushO
    rw[step_ins (.inr hk1)]
    exact⟨((((((((((((Two.refl g (A.map (·.block)) w).below b2).below b7).below b10).below b20).store g116).below b122).grown g127 (fun x_ e_=>.inr (.inr (by injection e_ with e_; have h_:=(Nat.le_trans (Nat.le_trans (Nat.le_trans (Nat.le_trans b2.size b7.size) b10.size) b20.size) g116.size); omega)))).below b136).grown g141 (fun x_ e_=>.inr (.inr (by injection e_ with e_; have h_:=(Nat.le_trans (Nat.le_trans (Nat.le_trans (Nat.le_trans (Nat.le_trans (Nat.le_trans b2.size b7.size) b10.size) b20.size) g116.size) b122.size) g127.size); omega)))).row g155 (.inl rfl)).store g170),.inl ⟨hpe0,rfl,A151,c152,k171,r178,hat162⟩⟩
   refine⟨_,rfl,?_⟩
   have g179:=Two.toGrown t113
   have r182:=Kd.R_off (Kd.R_below hR (bt (bt (bt b2 b7) b10) b20)) (Blk.below hk (bt (bt (bt b2 b7) b10) b20)) (by decide) g179
   have hpe0:=pushE_long (b:=b) (r:=r) c8 (by omega)
   refine xr0 1 [(37,bT)] [34,35,36] ?_
   refine nl (ct (sq (X_region ?_)))
   have B183:Below wB.heap.size wB w111:=(bg (bt (bt (bt (bt hB0 b2) b7) b10) b20) g179 hgB)
   refine xe 2 [(38,.load (.iface 208 (.pointer (some (errAt es 11)))))] [(4,.iface 208 (.pointer (some (errAt es 11))))] [la 45 (⟨3,0,none⟩) (.iface 208 (.pointer (some (errAt es 11)))) w111] ⟨loads1 rfl ((B183.cell (World.block_lt_of_cell? _ _ (hE.load 11 3 (by decide) (by decide) rfl))).trans (hE.load 11 3 (by decide) (by decide) rfl)),trivial⟩ ?_
   refine nl (X_ret (rj [.iface 208 (.pointer (some (errAt es 11)))] hR_ ?_))
   exact⟨((((((Two.refl g (A.map (·.block)) w).below b2).below b7).below b10).below b20).store g179),.inr ⟨by rw[hpe0]; decide,by rw[hpe0]; rfl,k112,r182⟩⟩
  ·rw[pOf_ret hk1]at M26
   obtain⟨A184,c185,e186,l187,R188⟩:=kPiece_retM M26
   obtain rfl:=(List.cons.inj e186).1
   replace R188:=Kd.R_mono R188 (fun _ h_=>h_.1)
   have hcc:=hcn (by omega)
   have hob:opB o=o.count:=B.opB_cnt (.inl hk1)
   have hor:opR o=o.count:=B.opR_ret hk1
   refine xr 2 [(31,.load (.iface 131 (.agg #[.slice A184 o.attrs.length c185,i6 o.count])))] [(9,.iface 131 (.agg #[.slice A184 o.attrs.length c185,i6 o.count]))] [30] [la 123 (ad22.add ((0:Int).toNat*1)) (.iface 131 (.agg #[.slice A184 o.attrs.length c185,i6 o.count])) w19] ⟨loads1 rfl (elem_cell hc24 0 _ rfl),trivial⟩ ?_
   refine nl (sq (sg (xe0 4 [(0,pw g 0),(9,.iface 131 (.agg #[.slice A184 o.attrs.length c185,i6 o.count])),(34,pw g 0),(35,.iface 131 (.agg #[.slice A184 o.attrs.length c185,i6 o.count]))] ?_)))
   refine xc 61 ent61 [pw g 0,.iface 131 (.agg #[.slice A184 o.attrs.length c185,i6 o.count])] (badd_ret _ _ _ _ g b r _ _ _ (Blk.below hk (bt (bt (bt b2 b7) b10) b20)) hb hr (by omega)) ?_
   rintro e w189 ⟨t191,⟨rfl,h1_192,h2_193,k190⟩|⟨rfl,h1_192,k190⟩⟩
   ·refine⟨_,rfl,?_⟩
    have g194:=Two.toGrown t191
    have r195:=Kd.R_off R188 (Blk.below hk (bt (bt (bt b2 b7) b10) b20)) (by decide) g194
    have r197:=Kd.R_off (Kd.R_below hR (bt (bt (bt b2 b7) b10) b20)) (Blk.below hk (bt (bt (bt b2 b7) b10) b20)) (by decide) g194
    have k198:RX.Blk w189 g 119 #[i6 (b+opB o),i6 (r+opR o),.slice A ((List.map pOf s.1).length) c,i6 s.2]:=by rw[hob,hor]; exact k190
    have hpe0:=pushE_ok (b:=b) (r:=r) c8 (by omega) (by omega)
    refine xr0 1 [(37,bF)] [34,35,36] ?_
    refine nl (cf (sk (sq (sg (xw 6 [] [(10,pw w189.heap.size 0),(42,.agg #[i6 0]),(43,bF)] [37] (w189.alloc (.cells #[i6 0] 126)) [] trivial ?_)))))
    obtain⟨w199,w203,b200,k201,z202⟩:=new_world w189 #[i6 0] 126
    rw[w203]
    refine xst (.agg #[i6 0]) k201 0 #[i6 0] (fun w204 g205 k206 z207=>?_)
    have hne208:g≠w189.heap.size:=Blk.tne (Blk.below k198 b200) k201 rfl
    have k209:=Blk.other (Blk.below k198 b200) g205 hne208
    have r210:=Kd.R_off (Kd.R_below r195 b200) k201 (by decide) g205
    have r212:=Kd.R_off (Kd.R_below r197 b200) k201 (by decide) g205
    refine xr0 1 [(11,bF)] [10,42,43] ?_
    refine nl (sg (xr0 1 [(44,bF)] [11] ?_))
    refine nl (cf (sk (sq (sg (xw 6 [] [(12,pw w204.heap.size 0),(57,.agg #[.slice A184 o.attrs.length c185,i6 o.count]),(58,bT)] [44] (w204.alloc (.cells #[.slice none 0 0,i6 0] 131)) [] trivial ?_)))))
    obtain⟨w213,w217,b214,k215,z216⟩:=new_world w204 #[.slice none 0 0,i6 0] 131
    rw[w217]
    refine xst (.agg #[.slice A184 o.attrs.length c185,i6 o.count]) k215 0 #[.slice A184 o.attrs.length c185,i6 o.count] (fun w218 g219 k220 z221=>?_)
    have hne222:g≠w204.heap.size:=Blk.tne (Blk.below k209 b214) k215 rfl
    have k223:=Blk.other (Blk.below k209 b214) g219 hne222
    have r226:=Kd.R_off (Kd.R_below r210 b214) k215 (by decide) g219
    have r228:=Kd.R_off (Kd.R_below r212 b214) k215 (by decide) g219
    refine xe0 1 [(0,pw g 0),(9,.iface 131 (.agg #[.slice A184 o.attrs.length c185,i6 o.count])),(13,bT)] ?_
    refine nl (sg (xr0 1 [(59,bT)] [13] ?_))
    refine nl (ct (sq (X_any [9,12] 13 (tf 0 13) (by kernel_rfl) (by kernel_rfl) (by kernel_rfl) (fun wd229 b230 h231=>?_))))
    refine XA_runC (fuel':=5) [1,2,3,4,5,6,7,8] [(64,.load (aL A (List.map pOf s.1) c)),(68,.load (i6 s.2))] [pw g 0,pw g 0,pw g 2,.slice A ((List.map pOf s.1).length) c,pw g 0,pw g 0,pw g 3,i6 s.2] #[false,true,true,true,true,true,true,true,true,false,false,false,false] [(64,aL A (List.map pOf s.1) c),(68,i6 s.2)] [59] [la 82 (⟨g,2,none⟩) (aL A (List.map pOf s.1) c) wd229,la 3 (⟨g,3,none⟩) (i6 s.2) wd229] ⟨loads1 rfl (Blk.cell (Blk.below k223 b230) 2 _ rfl),loads1 rfl (Blk.cell (Blk.below k223 b230) 3 _ rfl),trivial⟩ ?_
    refine XA_pureC (fuel':=4) [0] [] [pw g 0] (tf 9 4) [(60,pw g 0)] [] (fun w_=>[]) (fun w_=>trivial) ?_
    refine XA_act (fuel':=3) 9 (tf 10 3) _ rfl (by kernel_rfl) rfl (by kernel_rfl) rfl ?_
    have B240:Below wB.heap.size wB w189:=(bg (bt (bt (bt (bt hB0 b2) b7) b10) b20) g194 hgB)
    have B241:Below wB.heap.size wB w204:=(bg (bt B240 b200) g205 (B240).size)
    have B242:Below wB.heap.size wB wd229:=(bt (bg (bt (bg (bt (bg (bt (bt (bt (bt hB0 b2) b7) b10) b20) g194 hgB) b200) g205 (B240).size) b214) g219 (B241).size) b230)
    refine xc 62 ent62 [.slice A ((List.map pOf s.1).length) c,i6 s.2] (bdeleted_any _ _ s.1 _ wB _ (B242).size (Kd.R_below r228 b230) (fun k_ h_=>hok k_ (Nat.le_trans (Nat.le_trans (Nat.le_trans (Nat.le_trans (Nat.le_trans (Nat.le_trans (Nat.le_trans (Nat.le_trans (Nat.le_trans (Nat.le_trans b2.size b7.size) b10.size) b20.size) g194.size) b200.size) g205.size) b214.size) g219.size) b230.size) h_)) (by omega)) ?_
    rintro e w234 ⟨A232,c233,rfl,r235,g236,hat237⟩; refine⟨_,rfl,?_⟩
    have l238:=Kd.R_ge (Kd.R_below r228 b230)
    have hne239:=Kd.R_blk_ne (Kd.R_below r228 b230) (Blk.below k223 b230) rfl
    have hat243:=atc_new (Nat.le_trans (Nat.le_trans (Nat.le_trans (Nat.le_trans (Nat.le_trans (Nat.le_trans (Nat.le_trans (Nat.le_trans (Nat.le_trans b2.size b7.size) b10.size) b20.size) g194.size) b200.size) g205.size) b214.size) g219.size) b230.size) (.inl rfl) hat237
    have r244:=Kd.R_apart (Kd.R_below r226 b230) (Kd.R_below r228 b230) (by decide) g236
    have k245:=Blk.ne (Blk.below k223 b230) g236 hne239
    refine nl (XA_pureC (fuel':=1) [10,11] [] [pw g 0,pw g 2] (tf 12 1) [(69,aL A232 (List.map pOf (B.dels s.1 s.2)) c233),(71,pw g 2)] [60,64,68] (fun w_=>[]) (fun w_=>trivial) ?_)
    refine XA_act (fuel':=0) 12 (tf 13 0) _ rfl (by kernel_rfl) rfl (by kernel_rfl) rfl ?_
    refine xst (aL A232 (List.map pOf (B.dels s.1 s.2)) c233) k245 2 #[i6 (b+opB o),i6 (r+opR o),.slice A232 ((List.map pOf (B.dels s.1 s.2)).length) c233,i6 s.2] (fun w250 g251 k252 z253=>?_)
    have r258:=Kd.R_off r244 k245 (by decide) g251
    have r259:=Kd.R_off r235 k245 (by decide) g251
    refine nl (XA_done (by kernel_rfl) ?_)
    refine rg (xr0 3 [(74,pw g 3)] [69,71] ?_)
    refine xst (i6 0) k252 3 #[i6 (b+opB o),i6 (r+opR o),.slice A232 ((List.map pOf (B.dels s.1 s.2)).length) c233,i6 0] (fun w260 g261 k262 z263=>?_)
    have r266:=Kd.R_off r258 k252 (by decide) g261
    have r267:=Kd.R_off r259 k252 (by decide) g261
    refine nl (sg (xe1 6 [(79,.load (aL A232 (List.map pOf (B.dels s.1 s.2)) c233))] [(75,pw g 0),(79,aL A232 (List.map pOf (B.dels s.1 s.2)) c233),(80,.iface 131 (.agg #[.slice A184 o.attrs.length c185,i6 o.count]))] (lc 82 k262 2) ?_))
    have B276:Below wB.heap.size wB w260:=(bg (bg (bgo B242 g236 l238 (Nat.le_refl _)) g251 hgB) g261 hgB)
    refine xc 63 ent63 [.slice A232 ((List.map pOf (B.dels s.1 s.2)).length) c233,.iface 131 (.agg #[.slice A184 o.attrs.length c185,i6 o.count])] (bjoined_ret _ _ (B.dels s.1 s.2) o _ _ wB _ (B276).size hk1 c8 (dels_ok2 hbd hs2.1 (by omega)) r267 (fun k_ h_=>hok k_ (Nat.le_trans (Nat.le_trans (Nat.le_trans (Nat.le_trans (Nat.le_trans (Nat.le_trans (Nat.le_trans (Nat.le_trans (Nat.le_trans (Nat.le_trans (Nat.le_trans (Nat.le_trans (Nat.le_trans b2.size b7.size) b10.size) b20.size) g194.size) b200.size) g205.size) b214.size) g219.size) b230.size) g236.size) g251.size) g261.size) h_)) (by omega) (Kd.R_C r266) (pm_eq (pOf_ret hk1) (kPiece_Mret ⟨_,rfl,(Kd.R_mono (Kd.R_lower r266 ((bt (bt (bt hB0 b2) b7) b10)).size) (fun k_ h_=>hok k_ (Nat.le_trans (Nat.le_trans (Nat.le_trans b2.size b7.size) b10.size) h_)))⟩)) (by omega) (dels_txt hlt)) ?_
    rintro e w270 ⟨A268,c269,rfl,r271,g272,hat273⟩; refine⟨_,rfl,?_⟩
    have l274:=Kd.R_ge r267
    have hne275:=Kd.R_blk_ne r267 k262 rfl
    have hat277:=atc_new (Nat.le_trans (Nat.le_trans (Nat.le_trans (Nat.le_trans (Nat.le_trans (Nat.le_trans (Nat.le_trans (Nat.le_trans (Nat.le_trans (Nat.le_trans (Nat.le_trans (Nat.le_trans b2.size b7.size) b10.size) b20.size) g194.size) b200.size) g205.size) b214.size) g219.size) b230.size) g236.size) g251.size) g261.size) hat243 hat273
    have k279:=Blk.ne k262 g272 hne275
    refine xe0 2 [(81,aL A268 (List.map pOf (B.push (B.dels s.1 s.2) o)) c269),(83,pw g 2)] ?_
    refine xst (aL A268 (List.map pOf (B.push (B.dels s.1 s.2) o)) c269) k279 2 #[i6 (b+opB o),i6 (r+opR o),.slice A268 ((List.map pOf (B.push (B.dels s.1 s.2) o)).length) c269,i6 0] (fun w284 g285 k286 z287=>?_)
    have r291:=Kd.R_off r271 k279 (by decide) g285
    refine nl (sg (xe0 1 [(4,.nilIface)] ?_))
    refine nl (X_ret (rj [.nilIface] hR_ ?_))
    unfold PushO
    rw[step_ret hk1]
    exact⟨((((((((((((((((Two.refl g (A.map (·.block)) w).below b2).below b7).below b10).below b20).store g194).below b200).grown g205 (fun x_ e_=>.inr (.inr (by injection e_ with e_; have h_:=(Nat.le_trans (Nat.le_trans (Nat.le_trans (Nat.le_trans b2.size b7.size) b10.size) b20.size) g194.size); omega)))).below b214).grown g219 (fun x_ e_=>.inr (.inr (by injection e_ with e_; have h_:=(Nat.le_trans (Nat.le_trans (Nat.le_trans (Nat.le_trans (Nat.le_trans (Nat.le_trans b2.size b7.size) b10.size) b20.size) g194.size) b200.size) g205.size); omega)))).below b230).row g236 (.inl rfl)).store g251).store g261).row g272 hat243).store g285),.inl ⟨hpe0,rfl,A268,c269,k286,r291,hat277⟩⟩
   refine⟨_,rfl,?_⟩
   have g292:=Two.toGrown t191
   have r295:=Kd.R_off (Kd.R_below hR (bt (bt (bt b2 b7) b10) b20)) (Blk.below hk (bt (bt (bt b2 b7) b10) b20)) (by decide) g292
   have hpe0:=pushE_long (b:=b) (r:=r) c8 (by omega)
   refine xr0 1 [(37,bT)] [34,35,36] ?_
   refine nl (ct (sq (X_region ?_)))
   have B296:Below wB.heap.size wB w189:=(bg (bt (bt (bt (bt hB0 b2) b7) b10) b20) g292 hgB)
   refine xe 2 [(38,.load (.iface 208 (.pointer (some (errAt es 11)))))] [(4,.iface 208 (.pointer (some (errAt es 11))))] [la 45 (⟨3,0,none⟩) (.iface 208 (.pointer (some (errAt es 11)))) w189] ⟨loads1 rfl ((B296.cell (World.block_lt_of_cell? _ _ (hE.load 11 3 (by decide) (by decide) rfl))).trans (hE.load 11 3 (by decide) (by decide) rfl)),trivial⟩ ?_
   refine nl (X_ret (rj [.iface 208 (.pointer (some (errAt es 11)))] hR_ ?_))
   exact⟨((((((Two.refl g (A.map (·.block)) w).below b2).below b7).below b10).below b20).store g292),.inr ⟨by rw[hpe0]; decide,by rw[hpe0]; rfl,k190,r295⟩⟩
  rw[pOf_del hk1]at M26
  have e299:=kPiece_del (kPiece.K_of_M M26)
  obtain rfl:=(List.cons.inj e299).1
  have hcc:=hcn (by omega)
  have hob:opB o=o.count:=B.opB_cnt (.inr hk1)
  have hor:opR o=0:=B.opR_del hk1
  refine xr 2 [(31,.load (.iface 126 (.agg #[i6 o.count])))] [(9,.iface 126 (.agg #[i6 o.count]))] [30] [la 123 (ad22.add ((0:Int).toNat*1)) (.iface 126 (.agg #[i6 o.count])) w19] ⟨loads1 rfl (elem_cell hc24 0 _ rfl),trivial⟩ ?_
  refine nl (sq (sg (xe0 4 [(0,pw g 0),(9,.iface 126 (.agg #[i6 o.count])),(34,pw g 0),(35,.iface 126 (.agg #[i6 o.count]))] ?_)))
  refine xc 61 ent61 [pw g 0,.iface 126 (.agg #[i6 o.count])] (badd_del _ g b r _ _ _ (Blk.below hk (bt (bt (bt b2 b7) b10) b20)) hb hr (by omega)) ?_
  rintro e w302 ⟨t304,⟨rfl,h1_305,h2_306,k303⟩|⟨rfl,h1_305,k303⟩⟩
  ·refine⟨_,rfl,?_⟩
   have g307:=Two.toGrown t304
   have r309:=Kd.R_off (Kd.R_below hR (bt (bt (bt b2 b7) b10) b20)) (Blk.below hk (bt (bt (bt b2 b7) b10) b20)) (by decide) g307
   have k310:RX.Blk w302 g 119 #[i6 (b+opB o),i6 (r+opR o),.slice A ((List.map pOf s.1).length) c,i6 s.2]:=by rw[hob,hor]; exact k303
   have hpe0:=pushE_ok (b:=b) (r:=r) c8 (by omega) (by omega)
   refine xr0 1 [(37,bF)] [34,35,36] ?_
   refine nl (cf (sk (sq (sg (xw 6 [] [(10,pw w302.heap.size 0),(42,.agg #[i6 o.count]),(43,bT)] [37] (w302.alloc (.cells #[i6 0] 126)) [] trivial ?_)))))
   obtain⟨w311,w315,b312,k313,z314⟩:=new_world w302 #[i6 0] 126
   rw[w315]
   refine xst (.agg #[i6 o.count]) k313 0 #[i6 o.count] (fun w316 g317 k318 z319=>?_)
   have hne320:g≠w302.heap.size:=Blk.tne (Blk.below k310 b312) k313 rfl
   have k321:=Blk.other (Blk.below k310 b312) g317 hne320
   have r323:=Kd.R_off (Kd.R_below r309 b312) k313 (by decide) g317
   refine xr0 1 [(11,bT)] [10,42,43] ?_
   refine nl (sg (xr0 1 [(44,bT)] [11] ?_))
   refine nl (ct (sq (X_grow [9] 10 (tf 0 10) (by kernel_rfl) (by kernel_rfl) (by kernel_rfl) (fun wd324 b325 h326=>?_))))
   refine XB_runC (fuel':=5) (Below.refl _ _) [0,1,2,3,4] [(48,.load (i6 s.2))] [pw g 0,pw g 0,pw g 3,i6 s.2,.iface 126 (.agg #[i6 o.count])] (tf 5 5) [(45,pw g 0),(48,i6 s.2),(49,.iface 126 (.agg #[i6 o.count]))] [0,9,44] (fun w_=>[la 3 (⟨g,3,none⟩) (i6 s.2) w_]) (fun w_ hC_=>⟨loads1 rfl (Blk.cell (Blk.below k321 (bt b325 hC_)) 3 _ rfl),trivial⟩) ?_
   refine XB_mid (fuel':=4) 5 (tf 6 4) _ rfl (by kernel_rfl) (by kernel_rfl) rfl ?_
   refine XL_inv 141 #[.agg #[i6 o.count]] rfl rfl (by kernel_rfl) (by kernel_rfl) (deleteLen_any _ _) ?_
   rintro e w327 ⟨rfl,b328⟩; refine⟨_,rfl,?_⟩
   refine nl ?_
   refine⟨b328,?_⟩
   refine XB_run (fuel':=1) b328 [6,7,8] [(51,.eq (i6 (s.2+o.count)))] [i6 (s.2+o.count),pw g 0,pw g 3] (tf 9 1) [(51,i6 (s.2+o.count)),(53,pw g 3)] (fun w_=>[i6 (IntKind.i64.wrap (s.2+o.count))=i6 (s.2+o.count)]) (fun w_ hC_=>⟨wr_i64 (by omega) (by omega),trivial⟩) ?_
   refine XB_act (fuel':=0) 9 (tf 10 0) _ rfl (by kernel_rfl) rfl (by kernel_rfl) rfl ?_
   refine xst (i6 (s.2+o.count)) (Blk.below k321 (bt b325 b328)) 3 #[i6 (b+opB o),i6 (r+opR o),.slice A ((List.map pOf s.1).length) c,i6 (s.2+o.count)] (fun w329 g330 k331 z332=>?_)
   have r336:=Kd.R_off (Kd.R_below r323 (bt b325 b328)) (Blk.below k321 (bt b325 b328)) (by decide) g330
   refine nl (XB_done (by kernel_rfl) ?_)
   refine sg (xe0 1 [(4,.nilIface)] ?_)
   refine nl (X_ret (rj [.nilIface] hR_ ?_))
   unfold PushO
   rw[step_del hk1]
   exact⟨(((((((((((Two.refl g (A.map (·.block)) w).below b2).below b7).below b10).below b20).store g307).below b312).grown g317 (fun x_ e_=>.inr (.inr (by injection e_ with e_; have h_:=(Nat.le_trans (Nat.le_trans (Nat.le_trans (Nat.le_trans b2.size b7.size) b10.size) b20.size) g307.size); omega)))).below b325).below b328).store g330),.inl ⟨hpe0,rfl,A,c,k331,r336,(.inl rfl)⟩⟩
  refine⟨_,rfl,?_⟩
  have g337:=Two.toGrown t304
  have r339:=Kd.R_off (Kd.R_below hR (bt (bt (bt b2 b7) b10) b20)) (Blk.below hk (bt (bt (bt b2 b7) b10) b20)) (by decide) g337
  have hpe0:=pushE_long (b:=b) (r:=r) c8 (by omega)
  refine xr0 1 [(37,bT)] [34,35,36] ?_
  refine nl (ct (sq (X_region ?_)))
  have B340:Below wB.heap.size wB w302:=(bg (bt (bt (bt (bt hB0 b2) b7) b10) b20) g337 hgB)
  refine xe 2 [(38,.load (.iface 208 (.pointer (some (errAt es 11)))))] [(4,.iface 208 (.pointer (some (errAt es 11))))] [la 45 (⟨3,0,none⟩) (.iface 208 (.pointer (some (errAt es 11)))) w302] ⟨loads1 rfl ((B340.cell (World.block_lt_of_cell? _ _ (hE.load 11 3 (by decide) (by decide) rfl))).trans (hE.load 11 3 (by decide) (by decide) rfl)),trivial⟩ ?_
  refine nl (X_ret (rj [.iface 208 (.pointer (some (errAt es 11)))] hR_ ?_))
  exact⟨((((((Two.refl g (A.map (·.block)) w).below b2).below b7).below b10).below b20).store g337),.inr ⟨by rw[hpe0]; decide,by rw[hpe0]; rfl,k303,r339⟩⟩
 rw[errV_pos es (pErr o) (Nat.pos_of_ne_zero c8)]
 refine xr0 1 [(5,.iface 208 (.pointer (some (errAt es (pErr o))))),(17,bT)] [16] ?_
 refine nl (ct (sg (xe0 2 [(4,.iface 208 (.pointer (some (errAt es (pErr o)))))] ?_)))
 refine nl (X_ret (rj [.iface 208 (.pointer (some (errAt es (pErr o))))] hR_ ?_))
 have hpe0:=pushE_bad (b:=b) (r:=r) c8
 exact⟨(((Two.refl g (A.map (·.block)) w).below b2).below b7),.inr ⟨by rw[hpe0]; exact c8,by rw[hpe0,errV_pos es _ (Nat.pos_of_ne_zero c8)]; rfl,(Blk.below hk (bt b2 b7)),(Kd.R_below hR (bt b2 b7))⟩⟩
theorem push_any (o:OpA)(Ao:Option Addr)(co:Nat)(wB:World)(g:Nat)(b r:Int)(s:B.St)(A:Option Addr)(c:Nat)(w:World)(hB0:Below wB.heap.size wB w)(hgB:wB.heap.size≤g)(hk:RX.Blk w g 119 #[i6 b,i6 r,.slice A (List.map pOf s.1).length c,i6 s.2])(hR:kPiece.R 123 w wB.heap.size (OkFrom wB.heap.size) (.slice A (List.map pOf s.1).length c) (List.map pOf s.1))(hb:0≤b∧b≤1099511627776)(hr:0≤r∧r≤1099511627776)(hs2:0≤s.2∧s.2≤1099511627776)(hbd:badE s.1=0)(hl:s.1.length≤100000000)(hlt:(B.lst s.1).text.size≤1000000000)(hAo:kAttr.C w Ao o.attrs.length o.attrs)(hco:o.attrs.length≤co)(hz:opSz o)(hT:Tabs wB)(es:List Addr)(hE:ErrsO wB es):
  Calls Tryz.prog 46 #[pw g 0,.agg (o7A o (aL Ao o.attrs co))] w fun e w'=>PushR es wB g b r s A c w o e w':=
 pushO_any o Ao co wB g b r s A c w hB0 hgB hk hR (fun _ h=>Nat.le_trans hB0.size h) hb hr hs2 hbd hl hlt hAo hco hz hT es hE
end Go.Proofs.YtlnnjfdonilgmaaGreatDoor
