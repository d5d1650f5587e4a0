import Derived.Test.YtlnnjfdonilgmaaGreatDoorRX
import Derived.Test.YtlnnjfdonilgmaaGreatDoorProg
import Derived.LaidLaws
import Derived.LaidEql
import Derived.ChangeArms
import Derived.KernelRfl
import Derived.Test.YtlnnjfdonilgmaaGreatDoorShelf
import Derived.Test.YtlnnjfdonilgmaaGreatDoorMap
import Derived.Shelf.Unicode.DecodeLastEight
/- The program's errors: package-level variables that hold pointers of errors.New, and what comparing them answers. Condition: 'Errs', which a row's list gives. -/
namespace Go.Proofs.YtlnnjfdonilgmaaGreatDoor.RX
open Go Go.RowKit
abbrev Rt (f:FuncId)(args:Array Value)(w:World)(v:Value):Prop:=Calls Tryz.prog f args w fun e w'=>e=.returned v∧Below w.heap.size w w'
abbrev la (t:TypeId)(p:Addr)(v:Value)(w:World):Prop:=LoadsAs Tryz.prog t p v w
theorem lc (t:TypeId){w:World}{g:Nat}{bt:TypeId}{cs:Array Value}(h:Blk w g bt cs)(i:Nat){v:Value}(hi:cs[i]?=some v:=by rfl)(ht:plainT Tryz.prog t=true:=by rfl):LoadsAs Tryz.prog t ⟨g,i,none⟩ v w:=loads1 ht (Blk.cell h i _ hi)
end Go.Proofs.YtlnnjfdonilgmaaGreatDoor.RX
set_option linter.unusedVariables false
set_option linter.unusedSimpArgs false
set_option maxRecDepth 100000
namespace Go.Proofs.YtlnnjfdonilgmaaGreatDoor
open Go Go.RowKit RX

def errG :List Nat:=[4,5,6,7,8,1,9,10,11,12,
  3,2,13,14,15,0,16,17,18]

def errAt (es:List Addr)(n:Nat):Addr:=es.getD (n-1) ⟨0,0,none⟩
abbrev ev (es:List Addr)(n:Nat):Value:=.iface 301 (.pointer (some (errAt es n)))
def errV (es:List Addr)(n:Nat):Value:=if n=0 then .nilIface else .iface 208 (.pointer (some (errAt es n)))
theorem errV_zero (es:List Addr):errV es 0=.nilIface:=rfl
theorem errV_pos (es:List Addr)(n:Nat)(h:0<n):errV es n=.iface 208 (.pointer (some (errAt es n))):=if_neg (by omega)

theorem errInfo :(Tryz.prog.info? 208).map (fun i=>i.comparable)=some true:=by kernel_rfl
theorem errInfo2 :(Tryz.prog.info? 226).map (fun i=>i.size)=some 1:=by kernel_rfl
theorem err_self (es:List Addr)(n:Nat)(w:World):(binOp .eql 45 (.iface 208 (.pointer (some (errAt es n)))) (.iface 208 (.pointer (some (errAt es n))))).run Tryz.prog w=.ok (.bool true) w:=by
  obtain⟨i,hi,hc⟩:=Option.map_eq_some_iff.1 errInfo
  obtain⟨j,hj,hz⟩:=Option.map_eq_some_iff.1 errInfo2
  exact run_eql_iface_ptr_same w _ Tryz.underlying45 Tryz.underlying208 hi hc hj

abbrev errD (text:List UInt8):DataW Unit:=.iface "*errors.errorString" (.ptr (.agg [.lit (.string text)]))
theorem errStar : "*" ++ "errors.errorString" = "*errors.errorString" := by decide
theorem errRow (u:TypeId)(h:Tryz.prog.typeName? 3 u=some "*errors.errorString"):u=208:=
  typeName_ptr_named (nm:= "errors.errorString") (by rw[errStar]; kernel_rfl) (by kernel_rfl) (by decide) u (by rw[errStar]; exact h)
theorem errC1 :Tryz.prog.cellsOf 226=1:=by kernel_rfl
theorem errC2 :Tryz.prog.cellsOf 9=1:=by kernel_rfl

theorem errs_vars {W:World}:∀ (l:List (String×DataW Unit)) (ps:List MemPlace),DataW.LaidVars Tryz.prog W l ps→ps.Nodup→
    (∀ b off,MemPlace.cell b off∈ps→(∃ c t,W.heap[b]?=some (.cells c t (0,0)))∧∀ u v,W.cell? ⟨b,off,none⟩=some (.iface u v)→Value.okWide Tryz.prog W .any 0 u v)→
    (∀ x∈l,∃ g text,Tryz.prog.globalNamed x.1=some g∧(Tryz.prog.globals[g]?).map (·.type)=some 45∧x.2=errD text)→
    ∃ es:List Addr,es.length=l.length∧(∀ (i g:Nat) (a:Addr) n d,l[i]?=some (n,d)→Tryz.prog.globalNamed n=some g→es[i]?=some a→W.cell? ⟨g,0,none⟩=some (.iface 208 (.pointer (some a))))∧
      (∀ (i:Nat) a,es[i]?=some a→MemPlace.cell a.block a.off∈ps)∧(∀ (i j:Nat) (a:Addr),es[i]?=some a→es[j]?=some a→i=j)
  | [],ps,_,_,_,_=>⟨[],rfl,fun i g a n d h=>by simp at h,fun i a h=>by simp at h,fun i j a h=>by simp at h⟩
  | (n,d)::r,ps,h,hnd,hok,hl=>by
    obtain⟨g,t,cs,fuel,p,q,hg,ht,hv,hd,hr,rfl⟩:=h
    obtain⟨g',text,hg',ht',hdat⟩:=hl (n,d) (by simp)
    obtain rfl:=Option.some.inj (hg'.symm.trans hg)
    obtain rfl:=Option.some.inj (ht'.symm.trans ht)
    dsimp only at hdat
    subst hdat
    obtain⟨l0⟩:=cs
    rw[List.nodup_append]at hnd
    obtain⟨hnd1,hndq,hdis⟩:=hnd
    obtain⟨a,s,e1,hc,_,_,rfl⟩:=errorString_of_trod Tryz.underlying45 errRow Tryz.underlying208 Tryz.underlying226 rfl rfl Tryz.underlying9 errC1 errC2 hd (fun u v e=>by
      dsimp only at e
      subst e
      exact(hok g' 0 (by simp[MemPlace.row])).2 u v (by simpa using World.var?_cell hg hv 0))
    dsimp only at e1
    subst e1
    obtain⟨es,hlen,hcell,hin,hdup⟩:=errs_vars r q hr hndq (fun b off hb=>hok b off (by simp[hb])) (fun x hx=>hl x (by simp[hx]))
    refine⟨a::es,by simp[hlen],?_,?_,?_⟩
    · intro i g2 a2 n2 d2 h1 h2 h3
      cases i with
      | zero=>
        simp only[List.getElem?_cons_zero,Option.some.injEq,Prod.mk.injEq]at h1 h3
        obtain⟨rfl,rfl⟩:=h1
        subst h3
        obtain rfl:=Option.some.inj (h2.symm.trans hg)
        simpa using World.var?_cell hg hv 0
      | succ i=>exact hcell i g2 a2 n2 d2 (by simpa using h1) h2 (by simpa using h3)
    · intro i a2 h1
      cases i with
      | zero=>
        simp only[List.getElem?_cons_zero,Option.some.injEq]at h1
        subst h1
        simp[MemPlace.row]
      | succ i=>have:=hin i a2 (by simpa using h1); simp[this]
    · have hout:∀ (i:Nat) b,es[i]?=some b→b≠a:=by
        rintro i b h1 rfl
        exact hdis _ (by simp[MemPlace.row]) _ (hin i b h1) rfl
      intro i j b h1 h2
      cases i with
      | zero=>
        cases j with
        | zero=>rfl
        | succ j=>
          simp only[List.getElem?_cons_zero,Option.some.injEq]at h1
          exact absurd h1.symm (hout j b (by simpa using h2))
      | succ i=>
        cases j with
        | zero=>
          simp only[List.getElem?_cons_zero,Option.some.injEq]at h2
          exact absurd h2.symm (hout i b (by simpa using h1))
        | succ j=>exact congrArg (· +1) (hdup i j b (by simpa using h1) (by simpa using h2))

theorem laid_sub {W:World}:∀ {l l':List (String×DataW Unit)},l'.Sublist l→∀ {ps:List MemPlace},DataW.LaidVars Tryz.prog W l ps→∃ ps',DataW.LaidVars Tryz.prog W l' ps'∧ps'.Sublist ps:=by
  intro l l' hs
  induction hs with
  | slnil=>intro ps h; exact⟨ps,h,List.Sublist.refl _⟩
  | cons a hs ih=>
    intro ps h
    obtain⟨n,d⟩:=a
    obtain⟨g,t,cs,fuel,p,q,hg,ht,hv,hd,hr,rfl⟩:=h
    obtain⟨ps',h1,h2⟩:=ih hr
    exact⟨ps',h1,h2.trans (List.sublist_append_right _ _)⟩
  | cons_cons a hs ih=>
    intro ps h
    obtain⟨n,d⟩:=a
    obtain⟨g,t,cs,fuel,p,q,hg,ht,hv,hd,hr,rfl⟩:=h
    obtain⟨ps',h1,h2⟩:=ih hr
    exact⟨_,⟨g,t,cs,fuel,p,ps',hg,ht,hv,hd,h1,rfl⟩,h2.append_left _⟩
theorem errs_part {W:World}{l l':List (String×DataW Unit)}(h:laidMet Tryz.prog l W)(hs:l'.Sublist l)
    (hl:∀ x∈l',∃ g text,Tryz.prog.globalNamed x.1=some g∧(Tryz.prog.globals[g]?).map (·.type)=some 45∧x.2=errD text):
    ∃ es:List Addr,es.length=l'.length∧(∀ (i g:Nat) (a:Addr) n d,l'[i]?=some (n,d)→Tryz.prog.globalNamed n=some g→es[i]?=some a→W.cell? ⟨g,0,none⟩=some (.iface 208 (.pointer (some a))))∧
      (∀ (i:Nat) a,es[i]?=some a→∃ c t,W.heap[a.block]?=some (.cells c t (0,0)))∧(∀ (i j:Nat) (a:Addr),es[i]?=some a→es[j]?=some a→i=j):=by
  obtain⟨ps,hv,hnd,hok⟩:=h
  obtain⟨ps',hv',hsub⟩:=laid_sub hs hv
  obtain⟨es,h1,h2,h3,h4⟩:=errs_vars l' ps' hv' (hnd.sublist hsub) (fun b off hb=>hok b off (hsub.subset hb)) hl
  exact⟨es,h1,h2,fun i a hi=>(hok _ _ (hsub.subset (h3 i a hi))).1,h4⟩
def permE (perm:List Nat)(es:List Addr):List Addr:=perm.map fun i=>es.getD i ⟨0,0,none⟩
theorem permE_at {perm:List Nat}{es:List Addr}{i j:Nat}{a:Addr}(h1:perm[i]?=some j)(h2:es[j]?=some a):(permE perm es)[i]?=some a:=by
  unfold permE
  rw[List.getElem?_map,h1]
  simp[List.getD_eq_getElem?_getD,h2]
structure ErrsOn (E:List Nat) (w:World) (es:List Addr):Prop where
  cell:∀ n g:Nat,n∈E→errG[n-1]?=some g→w.cell? ⟨g,0,none⟩=some (.iface 208 (.pointer (some (errAt es n))))
theorem ErrsOn.sub {E E':List Nat}{w:World}{es:List Addr}(h:ErrsOn E w es)(hs:(E'.all fun n=>E.contains n)=true):ErrsOn E' w es:=
  ⟨fun n g hn hg=>h.cell n g (List.contains_iff_mem.1 (List.all_eq_true.1 hs n hn)) hg⟩
theorem ErrsOn.load {E:List Nat}{w:World}{es:List Addr}(h:ErrsOn E w es)(n g:Nat)(hn:n∈E)(h1:n≤19)(hg:errG[n-1]?=some g):w.cell? ⟨g,0,none⟩=some (.iface 208 (.pointer (some (errAt es n)))):=h.cell n g hn hg
theorem ErrsOn.below {E:List Nat}{w w1:World}{es:List Addr}(h:ErrsOn E w es)(hb:Below w.heap.size w w1):ErrsOn E w1 es:=
  ⟨fun n g hn hg=>(hb.cell (World.block_lt_of_cell? _ _ (h.cell n g hn hg))).trans (h.cell n g hn hg)⟩
theorem errsOn_of {W:World}{E:List Nat}{l l':List (String×DataW Unit)}(h:laidMet Tryz.prog l W)(hs:l'.Sublist l)
    (hl:∀ x∈l',∃ g text,Tryz.prog.globalNamed x.1=some g∧(Tryz.prog.globals[g]?).map (·.type)=some 45∧x.2=errD text) (perm:List Nat)
    (hp:∀ n∈E,∃ i g nm d,perm[n-1]?=some i∧l'[i]?=some (nm,d)∧Tryz.prog.globalNamed nm=some g∧errG[n-1]?=some g):∃ es,ErrsOn E W es:=by
  obtain⟨es,h1,h2,_,_⟩:=errs_part h hs hl
  refine⟨permE perm es,⟨fun n g hn hg=>?_⟩⟩
  obtain⟨i,g',nm,d,e1,e2,e3,e4⟩:=hp n hn
  obtain rfl:=Option.some.inj (e4.symm.trans hg)
  have hi:i<es.length:=by rw[h1]; exact(List.getElem?_eq_some_iff.1 e2).1
  have:=h2 i g' es[i] nm d e2 e3 (List.getElem?_eq_getElem hi)
  unfold errAt
  rw[List.getD_eq_getElem?_getD,permE_at e1 (List.getElem?_eq_getElem hi)]
  exact this
end Go.Proofs.YtlnnjfdonilgmaaGreatDoor
set_option linter.unusedVariables false
set_option linter.unusedSimpArgs false
set_option maxRecDepth 100000
namespace Go.Proofs.YtlnnjfdonilgmaaGreatDoor
open Go Go.RowKit RX
theorem ent79 :Ent Tryz.prog 79:=ent_of Tryz.func79 (by kernel_rfl) rfl
theorem ent66 :Ent Tryz.prog 66:=ent_of Tryz.func66 (by kernel_rfl) rfl
theorem ent49 :Ent Tryz.prog 49:=ent_of Tryz.func49 (by kernel_rfl) rfl
abbrev ErrsA (w:World)(es:List Addr):Prop:=ErrsOn [1,5,6,7,8,10] w es
abbrev Tabs (w:World):Prop:=Lib.Utf8Tabs 19 20 w
def nextP (s:ByteArray):Nat×Nat:=if (Lib.decodeGo s).1=65533∧(Lib.decodeGo s).2<2 then (0,0)else Lib.decodeGo s
theorem next_any (s:ByteArray)(w:World)(hT:Tabs w):Rt 66 #[sT s] w (.tuple #[.int .i32 ((nextP s).1:Int),i6 ((nextP s).2:Int)]):=by
 refine en Tryz.func66 rfl 19 [(0,sT s)] (fun R_ hR_=>?_)
 refine sg (xe0 2 [(0,sT s)] ?_)
 refine nl (sg (xe0 1 [(7,sT s)] ?_))
 refine xc 79 ent79 [sT s] (Tryz.utf8_DecodeRuneInString s _ hT) ?_
 rintro e w_1 ⟨rfl,b2⟩; refine⟨_,rfl,?_⟩
 refine xe0 5 [(4,.int .i32 ((Lib.decodeGo s).1:Int)),(5,i6 ((Lib.decodeGo s).2:Int))] ?_
 refine nl (sq (sg (xr0 1 [(11,.int .i32 ((Lib.decodeGo s).1:Int))] [] ?_)))
 by_cases c3:((Lib.decodeGo s).1:Int)=65533
 ·refine xr1 3 [(12,.eq bT)] [(13,bT),(14,i6 ((Lib.decodeGo s).2:Int))] [11] (bE c3) ?_
  by_cases c4:((Lib.decodeGo s).2:Int)<2
  ·refine xr1 2 [(15,.eq bT)] [(16,bT)] [13,14] (dT c4) ?_
   refine nl (ct (sg (xe0 2 [(2,.int .i32 0),(3,i6 0)] ?_)))
   refine nl (X_ret (rj [.int .i32 0,i6 0] hR_ ?_))
   rw[show nextP s=(0,0)from if_pos (by omega)]
   exact⟨rfl,b2⟩
  refine xr1 2 [(15,.eq bF)] [(16,bF)] [13,14] (dF c4) ?_
  refine nl (cf (sk (sg (xe0 4 [(2,.int .i32 ((Lib.decodeGo s).1:Int)),(3,i6 ((Lib.decodeGo s).2:Int))] ?_))))
  refine nl (X_ret (rj [.int .i32 ((Lib.decodeGo s).1:Int),i6 ((Lib.decodeGo s).2:Int)] hR_ ?_))
  rw[show nextP s=Lib.decodeGo s from if_neg (by omega)]
  exact⟨rfl,b2⟩
 refine xr1 5 [(12,.eq bF)] [(16,bF)] [11] (bN c3) ?_
 refine nl (cf (sk (sg (xe0 4 [(2,.int .i32 ((Lib.decodeGo s).1:Int)),(3,i6 ((Lib.decodeGo s).2:Int))] ?_))))
 refine nl (X_ret (rj [.int .i32 ((Lib.decodeGo s).1:Int),i6 ((Lib.decodeGo s).2:Int)] hR_ ?_))
 rw[show nextP s=Lib.decodeGo s from if_neg (by omega)]
 exact⟨rfl,b2⟩
theorem Tabs.below {w w1:World}(h:Tabs w)(hb:Below w.heap.size w w1):Tabs w1:=
 ⟨fun c hc=>(hb.cell (World.block_lt_of_cell? _ _ (h.1 c hc))).trans (h.1 c hc),fun i hi=>⟨(hb.cell (World.block_lt_of_cell? _ _ (h.2 i hi).1)).trans (h.2 i hi).1,(hb.cell (World.block_lt_of_cell? _ _ (h.2 i hi).2)).trans (h.2 i hi).2⟩⟩
theorem nextP_le (s:ByteArray):(nextP s).2≤s.size:=by
 unfold nextP
 split
 ·exact Nat.zero_le _
 exact Go.Lib.decodeGo_le_size s
def uloop (s:ByteArray):Nat→Nat→Nat×Bool
 | 0,k=>(k,true)
 | f+1,k=>if k<s.size then (if (nextP (s.extract k s.size)).2=0 then (k,false)else uloop s f (k+(nextP (s.extract k s.size)).2))else (k,true)
def uchk (s:ByteArray):Nat×Bool:=uloop s s.size 0
theorem uloop_fuel (s:ByteArray):∀ (f g k:Nat),s.size-k≤f→s.size-k≤g→uloop s f k=uloop s g k
 | 0,0,k,_,_=>rfl
 | 0,g+1,k,h,_=>by simp only[uloop]; rw[if_neg (by omega)]
 | f+1,0,k,_,h=>by simp only[uloop]; rw[if_neg (by omega)]
 | f+1,g+1,k,h1,h2=>by
  simp only[uloop]
  split
  ·split
   ·rfl
   exact uloop_fuel s f g _ (by omega) (by omega)
  rfl
theorem uloop_step (s:ByteArray)(k:Nat)(h:k<s.size)(h0:(nextP (s.extract k s.size)).2≠0):uloop s s.size k=uloop s s.size (k+(nextP (s.extract k s.size)).2):=by
 rw[uloop_fuel s s.size (s.size+1) k (by omega) (by omega)]
 simp only[uloop]
 rw[if_pos h,if_neg h0]
theorem uloop_bad (s:ByteArray)(k:Nat)(h:k<s.size)(h0:(nextP (s.extract k s.size)).2=0):uloop s s.size k=(k,false):=by
 rw[uloop_fuel s s.size (s.size+1) k (by omega) (by omega)]
 simp only[uloop]
 rw[if_pos h,if_pos h0]
theorem uloop_end (s:ByteArray)(k:Nat)(h:¬k<s.size):uloop s s.size k=(k,true):=by
 rw[uloop_fuel s s.size (s.size+1) k (by omega) (by omega)]
 simp only[uloop]
 rw[if_neg h]
theorem scheck_any (s:ByteArray)(w:World)(hs:s.size≤9223372036854775807)(hT:Tabs w)(es:List Addr)(hE:ErrsA w es):Rt 49 #[sT s] w (.tuple #[i6 ((uchk s).1:Int),errV es (if (uchk s).2 then 0 else 1)]):=by
 refine en Tryz.func49 rfl 26 [(0,sT s)] (fun R_ hR_=>?_)
 refine sg (xe0 2 [(0,sT s)] ?_)
 refine nl (sg (xr0 1 [(4,i6 0)] [] ?_))
 refine nl (sq (bk (X_loop (ι:=Nat) (fun k=>[(0,sT s),(4,i6 (k:Int))]) (fun k wl=>k≤s.size∧uloop s s.size k=uchk s∧Below w.heap.size w wl) (fun k=>s.size-k) 0 ⟨by omega,rfl,(Below.refl _ _)⟩ (by kernel_rfl) ?_)))
 rintro k wl ⟨hk,hk2,HB⟩
 refine sq (sg (xr0 3 [(7,nv k),(9,i6 (s.size:Int))] [] ?_))
 by_cases c1:(k:Int)<(s.size:Int)
 ·refine xr1 1 [(10,.eq bT)] [(10,bT)] [7,9] (dT c1) ?_
  refine nl (ct (sk (bk (sg (xr 3 [(14,.as (sT (s.extract k s.size)))] [(14,sT (s.extract k s.size))] [10] [RunsAs Tryz.prog [(12,sT s),(13,i6 (k:Int))] (Go.Op.slice 9 (Go.Operand.tmp 12) (some (Go.Operand.tmp 13)) none none) 9 (sT (s.extract k s.size)) wl] ⟨runs_slice_sl (h:=(k:Int)) Tryz.underlying9 rfl rfl (by omega) (by omega),trivial⟩ ?_)))))
  have hn:=nextP_le (s.extract k s.size)
  have hz:(s.extract k s.size).size=s.size-k:=by simp
  refine xc 66 ent66 [sT (s.extract k s.size)] (next_any (s.extract k s.size) _ (hT.below HB)) ?_
  rintro e w2 ⟨rfl,b3⟩; refine⟨_,rfl,?_⟩
  refine xr0 5 [(6,i6 ((nextP (s.extract k s.size)).2:Int))] [14,15] ?_
  refine nl (sq (sg (xr0 1 [(18,i6 ((nextP (s.extract k s.size)).2:Int))] [] ?_)))
  by_cases c4:((nextP (s.extract k s.size)).2:Int)=0
  ·refine xe1 1 [(19,.eq bT)] [(0,sT s),(4,nv k),(6,i6 ((nextP (s.extract k s.size)).2:Int)),(19,bT)] (bE c4) ?_
   refine nl (ct (sq (X_still (by kernel_rfl) (by kernel_rfl) (fun wd5 b6 h7=>?_))))
   refine xsC 4 [(21,.load (.iface 208 (.pointer (some (errAt es 1)))))] [(2,nv k),(3,.iface 208 (.pointer (some (errAt es 1))))] [0,4,6,19] [la 45 (⟨4,0,none⟩) (.iface 208 (.pointer (some (errAt es 1)))) wd5] ⟨loads1 rfl (((bt (bt HB b3) b6).cell (World.block_lt_of_cell? _ _ (hE.load 1 4 (by decide) (by decide) rfl))).trans (hE.load 1 4 (by decide) (by decide) rfl)),trivial⟩ ?_
   refine XS_nil ?_
   refine X_ret (rj [i6 (k:Int),.iface 208 (.pointer (some (errAt es 1)))] hR_ ?_)
   rw[←hk2,uloop_bad s k (by omega) (by omega)]
   exact⟨rfl,(bt (bt HB b3) b6)⟩
  refine xe1 1 [(19,.eq bF)] [(0,sT s),(4,nv k),(6,i6 ((nextP (s.extract k s.size)).2:Int)),(19,bF)] (bN c4) ?_
  refine nl (cf (sk (rg (xr1 4 [(24,.eq (i6 ((k:Int)+((nextP (s.extract k s.size)).2:Int))))] [(4,i6 ((k:Int)+((nextP (s.extract k s.size)).2:Int)))] [6,19] (w6 ((k:Int)+((nextP (s.extract k s.size)).2:Int))) ?_))))
  refine nl ?_
  refine⟨(k+(nextP (s.extract k s.size)).2),by kernel_rfl,?_,?_⟩
  ·exact⟨by omega,by rw[←hk2]; exact(uloop_step s k (by omega) (by omega)).symm,(bt HB b3)⟩
  (try dsimp only); omega
 refine xr1 1 [(10,.eq bF)] [(10,bF)] [7,9] (dF c1) ?_
 refine nl (cf (X_exit (sg (xe0 3 [(2,nv k),(3,.nilIface)] ?_))))
 refine nl (X_ret (rj [i6 (k:Int),.nilIface] hR_ ?_))
 rw[←hk2,uloop_end s k (by omega)]
 exact⟨rfl,HB⟩
end Go.Proofs.YtlnnjfdonilgmaaGreatDoor
