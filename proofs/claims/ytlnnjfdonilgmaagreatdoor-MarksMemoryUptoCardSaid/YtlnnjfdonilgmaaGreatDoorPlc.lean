import Derived.Test.YtlnnjfdonilgmaaGreatDoorT5
/- Pieces as values. No condition. -/

set_option linter.unusedVariables false
set_option linter.unusedSimpArgs false
namespace Go.Proofs.YtlnnjfdonilgmaaGreatDoor
open Go Go.RowKit Go.Proofs.YtlnnjfdonilgmaaGreatDoorW.PrintWords RX
inductive PEl
  | ins (A:Option Addr) (n c:Nat) (t:ByteArray) (k:Int)
  | emb (A:Option Addr) (n c:Nat) (t:ByteArray) (v:Value)
  | ret (A:Option Addr) (n c:Nat) (k:Int)
  | del (k:Int)
def PEl.val :PEl→Value
  | .ins A n c t k=>.iface 153 (.agg #[.slice A n c,.string t,.int .i64 k])
  | .emb A n c t v=>.iface 157 (.agg #[.slice A n c,.string t,v])
  | .ret A n c k=>.iface 131 (.agg #[.slice A n c,.int .i64 k])
  | .del k=>.iface 126 (.agg #[.int .i64 k])
def PEl.op :PEl→Int×Int
  | .ins _ _ _ _ k=>(1,k)
  | .emb _ _ _ _ _=>(2,1)
  | .ret _ _ _ k=>(3,k)
  | .del k=>(4,k)
noncomputable def pelO (o:OpA):Int×Int:=(o.kind,if o.kind=1 then ((U.sc o.text).length:Int)else if o.kind=2 then 1 else o.count)
theorem pel_of {w:World}{o:OpA}{cs:List Value}(h:kPiece.K w (pOf o) cs)(ho:pErr o=0):∃ x:PEl,cs=[x.val]∧x.op=pelO o:=by
  rcases kind_of_ok ho with hk|hk|hk|hk
  · rw[pOf_ins hk]at h
    obtain⟨A,c,rfl,_⟩:=kPiece_ins h
    exact⟨.ins A o.attrs.length c o.text _,rfl,by unfold PEl.op pelO; rw[hk]; rfl⟩
  · rw[pOf_emb hk]at h
    obtain⟨A,c,rfl,_⟩:=kPiece_emb h
    exact⟨.emb A o.attrs.length c o.text _,rfl,by unfold PEl.op pelO; rw[hk]; rfl⟩
  · rw[pOf_ret hk]at h
    obtain⟨A,c,rfl,_⟩:=kPiece_ret h
    exact⟨.ret A o.attrs.length c o.count,rfl,by unfold PEl.op pelO; rw[hk]; rfl⟩
  · rw[pOf_del hk]at h
    obtain rfl:=kPiece_del h
    exact⟨.del o.count,rfl,by unfold PEl.op pelO; rw[hk]; rfl⟩
def plStep (p:Int)(b:Bool)(s o:Int×Int):Int×Int:=
  if o.1=3 then (s.1+o.2,s.2)else if o.1=4 then (s.1+o.2,s.2-min o.2 (max (p-s.1) 0))else (s.1,if s.1<p∨(s.1=p∧b=true)then s.2+o.2 else s.2)
def plFold (p:Int)(b:Bool)(ps:List (Int×Int)):Int×Int:=ps.foldl (plStep p b) (0,p)
def rfStep (p:Int)(b:Bool)(s o:Int×Int):Int×Int:=
  if o.1=1∨o.1=2 then (s.1,if s.1<p∨(s.1=p∧b=true)then s.2+o.2 else s.2)else if o.1=3 then (s.1+o.2,s.2+max 0 (min (p-s.1) o.2))else if o.1=4 then (s.1+o.2,s.2)else s
def rfFold (p:Int)(b:Bool)(ps:List (Int×Int)):Int×Int:=ps.foldl (rfStep p b) (0,0)
def plOf (p:Int)(b:Bool)(ps:List (Int×Int)):Int:=(plFold p b ps).2
theorem plFold_snoc (p:Int)(b:Bool)(ps:List (Int×Int))(o:Int×Int):plFold p b (ps++[o])=plStep p b (plFold p b ps) o:=by unfold plFold; rw[List.foldl_append]; rfl
theorem rfFold_snoc (p:Int)(b:Bool)(ps:List (Int×Int))(o:Int×Int):rfFold p b (ps++[o])=rfStep p b (rfFold p b ps) o:=by unfold rfFold; rw[List.foldl_append]; rfl
def PlOk (M:Int)(ps:List (Int×Int)):Prop:=∀ o∈ps,(o.1=1∨o.1=2∨o.1=3∨o.1=4)∧0≤o.2∧o.2≤M
theorem snocInd {α:Type}{P:List α→Prop}(h0:P [])(h1:∀ l a,P l→P (l++[a])):∀ l,P l:=fun l=>by
  have:∀ r:List α,P r.reverse:=fun r=>by
    induction r with
    | nil=>exact h0
    | cons a r ih=>rw[List.reverse_cons]; exact h1 _ _ ih
  have h:=this l.reverse
  rwa [List.reverse_reverse]at h
section
variable {p : Int} {b : Bool} {s o : Int × Int}
theorem pl_ins (h:o.1=1∨o.1=2):plStep p b s o=(s.1,if s.1<p∨(s.1=p∧b=true)then s.2+o.2 else s.2):=by
  unfold plStep
  rw[if_neg (show ¬o.1=3 by omega),if_neg (show ¬o.1=4 by omega)]
theorem pl_ret (h:o.1=3):plStep p b s o=(s.1+o.2,s.2):=by unfold plStep; rw[if_pos h]
theorem pl_del (h:o.1=4):plStep p b s o=(s.1+o.2,s.2-min o.2 (max (p-s.1) 0)):=by unfold plStep; rw[if_neg (show ¬o.1=3 by omega),if_pos h]
theorem rf_ins (h:o.1=1∨o.1=2):rfStep p b s o=(s.1,if s.1<p∨(s.1=p∧b=true)then s.2+o.2 else s.2):=by unfold rfStep; rw[if_pos h]
theorem rf_ret (h:o.1=3):rfStep p b s o=(s.1+o.2,s.2+max 0 (min (p-s.1) o.2)):=by unfold rfStep; rw[if_neg (show ¬(o.1=1∨o.1=2) by omega),if_pos h]
theorem rf_del (h:o.1=4):rfStep p b s o=(s.1+o.2,s.2):=by unfold rfStep; rw[if_neg (show ¬(o.1=1∨o.1=2) by omega),if_neg (show ¬o.1=3 by omega),if_pos h]
end
theorem pl_rf {M p:Int}(b:Bool)(hp:0≤p):∀ ps,PlOk M ps→(plFold p b ps).1=(rfFold p b ps).1∧(plFold p b ps).2=(rfFold p b ps).2+max 0 (p-(rfFold p b ps).1):=by
  refine snocInd (fun _=>⟨rfl,by show p=0+max 0 (p-0); omega⟩) fun ps o ih h=>?_
  obtain⟨h1,h2⟩:=ih fun x hx=>h x (List.mem_append_left _ hx)
  obtain⟨hk,ho,_⟩:=h o (by simp)
  rw[plFold_snoc,rfFold_snoc]
  generalize plFold p b ps=s at*
  generalize rfFold p b ps=r at*
  have hk':(o.1=1∨o.1=2)∨o.1=3∨o.1=4:=by omega
  rcases hk' with hk'|hk'|hk'
  · rw[pl_ins hk',rf_ins hk',←h1]
    refine⟨rfl,?_⟩
    dsimp only
    by_cases hc:s.1<p∨(s.1=p∧b=true)
    · rw[if_pos hc,if_pos hc]; omega
    · rw[if_neg hc,if_neg hc]; omega
  · rw[pl_ret hk',rf_ret hk']
    dsimp only
    omega
  · rw[pl_del hk',rf_del hk']
    dsimp only
    omega
theorem pl_bd {M p:Int}(b:Bool)(hp:0≤p)(hM:0≤M):∀ ps,PlOk M ps→0≤(plFold p b ps).1∧(plFold p b ps).1≤(ps.length:Int)*M∧0≤(plFold p b ps).2∧max (p-(plFold p b ps).1) 0≤(plFold p b ps).2∧(plFold p b ps).2≤p+(ps.length:Int)*M:=by
  refine snocInd (fun _=>⟨Int.le_refl _,by show (0:Int)≤((0:Nat):Int)*M; omega,hp,by show max (p-0) 0≤p; omega,by show p≤p+((0:Nat):Int)*M; omega⟩) fun ps o ih h=>?_
  obtain⟨h1,h2,h3,h4,h5⟩:=ih fun x hx=>h x (List.mem_append_left _ hx)
  obtain⟨hk,ho,hoM⟩:=h o (by simp)
  rw[plFold_snoc,List.length_append,List.length_singleton]
  have hmul:(((ps.length+1:Nat):Int))*M=(ps.length:Int)*M+M:=by rw[Int.natCast_add,Int.add_mul]; simp
  rw[hmul]
  generalize (ps.length:Int)*M=LM at*
  generalize plFold p b ps=s at*
  have hk':(o.1=1∨o.1=2)∨o.1=3∨o.1=4:=by omega
  rcases hk' with hk'|hk'|hk'
  · rw[pl_ins hk']
    dsimp only
    by_cases hc:s.1<p∨(s.1=p∧b=true)
    · rw[if_pos hc]; omega
    · rw[if_neg hc]; omega
  · rw[pl_ret hk']; dsimp only; omega
  · rw[pl_del hk']; dsimp only; omega
theorem pl_len (M p:Int)(b:Bool)(xs:List OpA)(i:Nat)(h:i<xs.length):plFold p b ((xs.take (i+1)).map pelO)=plStep p b (plFold p b ((xs.take i).map pelO)) (pelO (xs.getD i op0)):=by
  rw[take_snocD op0 xs i h,List.map_append,List.map_cons,List.map_nil,plFold_snoc]
theorem rf_len (p:Int)(b:Bool)(xs:List OpA)(i:Nat)(h:i<xs.length):rfFold p b ((xs.take (i+1)).map pelO)=rfStep p b (rfFold p b ((xs.take i).map pelO)) (pelO (xs.getD i op0)):=by
  rw[take_snocD op0 xs i h,List.map_append,List.map_cons,List.map_nil,rfFold_snoc]
end Go.Proofs.YtlnnjfdonilgmaaGreatDoor
