/- What scalars.next and Check answer. Conditions: the tables of utf8. -/
import Derived.Test.YtlnnjfdonilgmaaGreatDoorShelf
import Derived.Test.YtlnnjfdonilgmaaGreatDoorErr
import Derived.Test.YtlnnjfdonilgmaaGreatDoorKd
import Derived.Shelf.Unicode.DecodeLastEight
set_option linter.unusedVariables false
set_option linter.unusedSimpArgs false
set_option maxRecDepth 100000
namespace Go.Proofs.YtlnnjfdonilgmaaGreatDoor
open Go Go.RowKit RX
theorem ent79 :Ent Tryz.prog 79:=ent_of Tryz.func79 (by kernel_rfl) rfl
theorem ent66 :Ent Tryz.prog 66:=ent_of Tryz.func66 (by kernel_rfl) rfl
theorem ent49 :Ent Tryz.prog 49:=ent_of Tryz.func49 (by kernel_rfl) rfl
abbrev ErrsA (w:World)(es:List Addr):Prop:=ErrsOn [1,5,6,7,8,10] w es
abbrev Tabs (w:World):Prop:=Lib.Utf8Tabs 19 20 w
def nextP (s:ByteArray):Nat×Nat:=if (Lib.decodeGo s).1=65533∧(Lib.decodeGo s).2<2 then (0,0)else Lib.decodeGo s
theorem next_any (s:ByteArray)(w:World)(hT:Tabs w):Rt 66 #[sT s] w (.tuple #[.int .i32 ((nextP s).1:Int),i6 ((nextP s).2:Int)]):=by
 refine en Tryz.func66 rfl 19 [(0,sT s)] (fun R_ hR_=>?_)
 refine sg (xe0 2 [(0,sT s)] ?_)
 refine nl (sg (xe0 1 [(7,sT s)] ?_))
 refine xc 79 ent79 [sT s] (Tryz.utf8_DecodeRuneInString s _ hT) ?_
 rintro e w_1 ⟨rfl,b2⟩; refine⟨_,rfl,?_⟩
 refine xe0 5 [(4,.int .i32 ((Lib.decodeGo s).1:Int)),(5,i6 ((Lib.decodeGo s).2:Int))] ?_
 refine nl (sq (sg (xr0 1 [(11,.int .i32 ((Lib.decodeGo s).1:Int))] [] ?_)))
 by_cases c3:((Lib.decodeGo s).1:Int)=65533
 ·refine xr1 3 [(12,.eq bT)] [(13,bT),(14,i6 ((Lib.decodeGo s).2:Int))] [11] (bE c3) ?_
  by_cases c4:((Lib.decodeGo s).2:Int)<2
  ·refine xr1 2 [(15,.eq bT)] [(16,bT)] [13,14] (dT c4) ?_
   refine nl (ct (sg (xe0 2 [(2,.int .i32 0),(3,i6 0)] ?_)))
   refine nl (X_ret (rj [.int .i32 0,i6 0] hR_ ?_))
   rw[show nextP s=(0,0)from if_pos (by omega)]
   exact⟨rfl,b2⟩
  refine xr1 2 [(15,.eq bF)] [(16,bF)] [13,14] (dF c4) ?_
  refine nl (cf (sk (sg (xe0 4 [(2,.int .i32 ((Lib.decodeGo s).1:Int)),(3,i6 ((Lib.decodeGo s).2:Int))] ?_))))
  refine nl (X_ret (rj [.int .i32 ((Lib.decodeGo s).1:Int),i6 ((Lib.decodeGo s).2:Int)] hR_ ?_))
  rw[show nextP s=Lib.decodeGo s from if_neg (by omega)]
  exact⟨rfl,b2⟩
 refine xr1 5 [(12,.eq bF)] [(16,bF)] [11] (bN c3) ?_
 refine nl (cf (sk (sg (xe0 4 [(2,.int .i32 ((Lib.decodeGo s).1:Int)),(3,i6 ((Lib.decodeGo s).2:Int))] ?_))))
 refine nl (X_ret (rj [.int .i32 ((Lib.decodeGo s).1:Int),i6 ((Lib.decodeGo s).2:Int)] hR_ ?_))
 rw[show nextP s=Lib.decodeGo s from if_neg (by omega)]
 exact⟨rfl,b2⟩
theorem Tabs.below {w w1:World}(h:Tabs w)(hb:Below w.heap.size w w1):Tabs w1:=
 ⟨fun c hc=>(hb.cell (World.block_lt_of_cell? _ _ (h.1 c hc))).trans (h.1 c hc),fun i hi=>⟨(hb.cell (World.block_lt_of_cell? _ _ (h.2 i hi).1)).trans (h.2 i hi).1,(hb.cell (World.block_lt_of_cell? _ _ (h.2 i hi).2)).trans (h.2 i hi).2⟩⟩
theorem nextP_le (s:ByteArray):(nextP s).2≤s.size:=by
 unfold nextP
 split
 ·exact Nat.zero_le _
 exact Go.Lib.decodeGo_le_size s
def uloop (s:ByteArray):Nat→Nat→Nat×Bool
 | 0,k=>(k,true)
 | f+1,k=>if k<s.size then (if (nextP (s.extract k s.size)).2=0 then (k,false)else uloop s f (k+(nextP (s.extract k s.size)).2))else (k,true)
def uchk (s:ByteArray):Nat×Bool:=uloop s s.size 0
theorem uloop_fuel (s:ByteArray):∀ (f g k:Nat),s.size-k≤f→s.size-k≤g→uloop s f k=uloop s g k
 | 0,0,k,_,_=>rfl
 | 0,g+1,k,h,_=>by simp only[uloop]; rw[if_neg (by omega)]
 | f+1,0,k,_,h=>by simp only[uloop]; rw[if_neg (by omega)]
 | f+1,g+1,k,h1,h2=>by
  simp only[uloop]
  split
  ·split
   ·rfl
   exact uloop_fuel s f g _ (by omega) (by omega)
  rfl
theorem uloop_step (s:ByteArray)(k:Nat)(h:k<s.size)(h0:(nextP (s.extract k s.size)).2≠0):uloop s s.size k=uloop s s.size (k+(nextP (s.extract k s.size)).2):=by
 rw[uloop_fuel s s.size (s.size+1) k (by omega) (by omega)]
 simp only[uloop]
 rw[if_pos h,if_neg h0]
theorem uloop_bad (s:ByteArray)(k:Nat)(h:k<s.size)(h0:(nextP (s.extract k s.size)).2=0):uloop s s.size k=(k,false):=by
 rw[uloop_fuel s s.size (s.size+1) k (by omega) (by omega)]
 simp only[uloop]
 rw[if_pos h,if_pos h0]
theorem uloop_end (s:ByteArray)(k:Nat)(h:¬k<s.size):uloop s s.size k=(k,true):=by
 rw[uloop_fuel s s.size (s.size+1) k (by omega) (by omega)]
 simp only[uloop]
 rw[if_neg h]
theorem scheck_any (s:ByteArray)(w:World)(hs:s.size≤9223372036854775807)(hT:Tabs w)(es:List Addr)(hE:ErrsA w es):Rt 49 #[sT s] w (.tuple #[i6 ((uchk s).1:Int),errV es (if (uchk s).2 then 0 else 1)]):=by
 refine en Tryz.func49 rfl 26 [(0,sT s)] (fun R_ hR_=>?_)
 refine sg (xe0 2 [(0,sT s)] ?_)
 refine nl (sg (xr0 1 [(4,i6 0)] [] ?_))
 refine nl (sq (bk (X_loop (ι:=Nat) (fun k=>[(0,sT s),(4,i6 (k:Int))]) (fun k wl=>k≤s.size∧uloop s s.size k=uchk s∧Below w.heap.size w wl) (fun k=>s.size-k) 0 ⟨by omega,rfl,(Below.refl _ _)⟩ (by kernel_rfl) ?_)))
 rintro k wl ⟨hk,hk2,HB⟩
 refine sq (sg (xr0 3 [(7,nv k),(9,i6 (s.size:Int))] [] ?_))
 by_cases c1:(k:Int)<(s.size:Int)
 ·refine xr1 1 [(10,.eq bT)] [(10,bT)] [7,9] (dT c1) ?_
  refine nl (ct (sk (bk (sg (xr 3 [(14,.as (sT (s.extract k s.size)))] [(14,sT (s.extract k s.size))] [10] [RunsAs Tryz.prog [(12,sT s),(13,i6 (k:Int))] (Go.Op.slice 9 (Go.Operand.tmp 12) (some (Go.Operand.tmp 13)) none none) 9 (sT (s.extract k s.size)) wl] ⟨runs_slice_sl (h:=(k:Int)) Tryz.underlying9 rfl rfl (by omega) (by omega),trivial⟩ ?_)))))
  have hn:=nextP_le (s.extract k s.size)
  have hz:(s.extract k s.size).size=s.size-k:=by simp
  refine xc 66 ent66 [sT (s.extract k s.size)] (next_any (s.extract k s.size) _ (hT.below HB)) ?_
  rintro e w2 ⟨rfl,b3⟩; refine⟨_,rfl,?_⟩
  refine xr0 5 [(6,i6 ((nextP (s.extract k s.size)).2:Int))] [14,15] ?_
  refine nl (sq (sg (xr0 1 [(18,i6 ((nextP (s.extract k s.size)).2:Int))] [] ?_)))
  by_cases c4:((nextP (s.extract k s.size)).2:Int)=0
  ·refine xe1 1 [(19,.eq bT)] [(0,sT s),(4,nv k),(6,i6 ((nextP (s.extract k s.size)).2:Int)),(19,bT)] (bE c4) ?_
   refine nl (ct (sq (X_still (by kernel_rfl) (by kernel_rfl) (fun wd5 b6 h7=>?_))))
   refine xsC 4 [(21,.load (.iface 208 (.pointer (some (errAt es 1)))))] [(2,nv k),(3,.iface 208 (.pointer (some (errAt es 1))))] [0,4,6,19] [la 45 (⟨4,0,none⟩) (.iface 208 (.pointer (some (errAt es 1)))) wd5] ⟨loads1 rfl (((bt (bt HB b3) b6).cell (World.block_lt_of_cell? _ _ (hE.load 1 4 (by decide) (by decide) rfl))).trans (hE.load 1 4 (by decide) (by decide) rfl)),trivial⟩ ?_
   refine XS_nil ?_
   refine X_ret (rj [i6 (k:Int),.iface 208 (.pointer (some (errAt es 1)))] hR_ ?_)
   rw[←hk2,uloop_bad s k (by omega) (by omega)]
   exact⟨rfl,(bt (bt HB b3) b6)⟩
  refine xe1 1 [(19,.eq bF)] [(0,sT s),(4,nv k),(6,i6 ((nextP (s.extract k s.size)).2:Int)),(19,bF)] (bN c4) ?_
  refine nl (cf (sk (rg (xr1 4 [(24,.eq (i6 ((k:Int)+((nextP (s.extract k s.size)).2:Int))))] [(4,i6 ((k:Int)+((nextP (s.extract k s.size)).2:Int)))] [6,19] (w6 ((k:Int)+((nextP (s.extract k s.size)).2:Int))) ?_))))
  refine nl ?_
  refine⟨(k+(nextP (s.extract k s.size)).2),by kernel_rfl,?_,?_⟩
  ·exact⟨by omega,by rw[←hk2]; exact(uloop_step s k (by omega) (by omega)).symm,(bt HB b3)⟩
  (try dsimp only); omega
 refine xr1 1 [(10,.eq bF)] [(10,bF)] [7,9] (dF c1) ?_
 refine nl (cf (X_exit (sg (xe0 3 [(2,nv k),(3,.nilIface)] ?_))))
 refine nl (X_ret (rj [i6 (k:Int),.nilIface] hR_ ?_))
 rw[←hk2,uloop_end s k (by omega)]
 exact⟨rfl,HB⟩
end Go.Proofs.YtlnnjfdonilgmaaGreatDoor
