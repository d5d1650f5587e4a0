import Derived.Test.YtlnnjfdonilgmaaGreatDoorK11
/- MarksAlone: plain law. No condition. -/

set_option linter.unusedVariables false
set_option linter.unusedSimpArgs false
namespace Go.Proofs.YtlnnjfdonilgmaaGreatDoor
open Go Go.RowKit Go.Proofs.YtlnnjfdonilgmaaGreatDoorW.PrintWords RX
def pq (n x:Int):Int:=Int.tmod (IntKind.u64.wrap x) n
theorem pq_bd {n x:Int}(h:0<n):0≤pq n x∧pq n x<n:=by
  have h0:0≤IntKind.u64.wrap x:=by rw[IntKind.wrap_u64]; omega
  unfold pq
  rw[Int.tmod_eq_emod_of_nonneg h0]
  exact⟨Int.emod_nonneg _ (by omega),Int.emod_lt_of_pos _ h⟩
theorem pq_cv {n:Int}(x:Int)(h:0<n)(h1:n≤1099511627776):Value.int .i64 (IntKind.i64.wrap (Int.tmod (IntKind.u64.wrap x) n))=.int .i64 (pq n x):=wr_i64 (by have:=(pq_bd (n:=n) (x:=x) h).1; unfold pq at this; omega) (by have:=(pq_bd (n:=n) (x:=x) h).2; unfold pq at this; omega)
def nrP (p:Int):List (Int×Int)→Int→Int→Int×Bool
  | [],gap,out=>(out+p-gap,true)
  | o::r,gap,out=>if o.1=3 then (if p<gap+o.2 then (out+p-gap,true)else nrP p r (gap+o.2) (out+o.2))else if o.1=4 then (if p<gap+o.2 then (0,false)else nrP p r (gap+o.2) out)else nrP p r gap (out+o.2)
theorem PlOk.cons {M:Int}{o:Int×Int}{r:List (Int×Int)}(h:PlOk M (o::r)):((o.1=1∨o.1=2)∨o.1=3∨o.1=4)∧0≤o.2∧PlOk M r:=by
  obtain⟨h1,h2,_⟩:=h o (by simp)
  exact⟨by omega,h2,fun x hx=>h x (by simp[hx])⟩
theorem rf_done {M p:Int}{b:Bool}:∀ {r:List (Int×Int)} {s:Int×Int},PlOk M r→(p<s.1∨(p=s.1∧b=false))→(r.foldl (rfStep p b) s).2=s.2∧p≤(r.foldl (rfStep p b) s).1
  | [],s,_,h=>⟨rfl,by rw[List.foldl_nil]; omega⟩
  | o::r,s,hO,h=>by
    obtain⟨hk,h0,hr⟩:=hO.cons
    rw[List.foldl_cons]
    rcases hk with hk|hk|hk
    · have hn:¬(s.1<p∨(s.1=p∧b=true)):=by
        rintro(h1|⟨h1,h2⟩)
        · omega
        · rcases h with h|⟨_,h⟩
          · omega
          · rw[h]at h2; cases h2
      rw[rf_ins hk,if_neg hn]
      exact rf_done (s:=(s.1,s.2)) hr h
    · rw[rf_ret hk]
      have:=rf_done (r:=r) (s:=(s.1+o.2,s.2+max 0 (min (p-s.1) o.2))) (b:=b) (p:=p) hr (by rcases h with h|⟨h,hb⟩; (· left; dsimp only; omega); (· by_cases h2:o.2=0; (· right; exact⟨by dsimp only; omega,hb⟩); (· left; dsimp only; omega)))
      exact⟨by rw[this.1]; dsimp only; omega,this.2⟩
    · rw[rf_del hk]
      exact rf_done (s:=(s.1+o.2,s.2)) hr (by rcases h with h|⟨h,hb⟩; (· left; dsimp only; omega); (· by_cases h2:o.2=0; (· right; exact⟨by dsimp only; omega,hb⟩); (· left; dsimp only; omega)))
theorem near_t {M p:Int}:∀ {r:List (Int×Int)} {gap out a:Int},PlOk M r→gap≤p→nrP p r gap out=(a,true)→(r.foldl (rfStep p true) (gap,out)).2+max 0 (p-(r.foldl (rfStep p true) (gap,out)).1)=a
  | [],gap,out,a,_,hg,h=>by
    injection h with h _
    show out+max 0 (p-gap)=a
    omega
  | o::r,gap,out,a,hO,hg,h=>by
    obtain⟨hk,h0,hr⟩:=hO.cons
    rw[List.foldl_cons]
    unfold nrP at h
    rcases hk with hk|hk|hk
    · rw[if_neg (show ¬o.1=3 by omega),if_neg (show ¬o.1=4 by omega)]at h
      rw[rf_ins hk,if_pos (show gap<p∨(gap=p∧true=true) by by_cases h5:gap=p; (· exact .inr ⟨h5,rfl⟩); (· exact .inl (by omega)))]
      exact near_t hr hg h
    · rw[if_pos hk]at h
      rw[rf_ret hk]
      by_cases hc:p<gap+o.2
      · rw[if_pos hc]at h
        injection h with h _
        have:=rf_done (r:=r) (s:=(gap+o.2,out+max 0 (min (p-gap) o.2))) (b:=true) (p:=p) hr (.inl hc)
        dsimp only at this ⊢
        omega
      · rw[if_neg hc]at h
        have:=near_t hr (show gap+o.2≤p by omega) h
        dsimp only
        rw[show max 0 (min (p-gap) o.2)=o.2 by omega]
        exact this
    · rw[if_neg (show ¬o.1=3 by omega),if_pos hk]at h
      rw[rf_del hk]
      by_cases hc:p<gap+o.2
      · rw[if_pos hc]at h
        injection h with _ h
        cases h
      · rw[if_neg hc]at h
        exact near_t hr (show gap+o.2≤p by omega) h
theorem near_f {M p:Int}:∀ {r:List (Int×Int)} {gap out a:Int},PlOk M r→gap≤p-1→nrP (p-1) r gap out=(a,true)→(r.foldl (rfStep p false) (gap,out)).2+max 0 (p-(r.foldl (rfStep p false) (gap,out)).1)=a+1
  | [],gap,out,a,_,hg,h=>by
    injection h with h _
    show out+max 0 (p-gap)=a+1
    omega
  | o::r,gap,out,a,hO,hg,h=>by
    obtain⟨hk,h0,hr⟩:=hO.cons
    rw[List.foldl_cons]
    unfold nrP at h
    rcases hk with hk|hk|hk
    · rw[if_neg (show ¬o.1=3 by omega),if_neg (show ¬o.1=4 by omega)]at h
      rw[rf_ins hk,if_pos (show gap<p∨(gap=p∧false=true) by left; omega)]
      exact near_f hr hg h
    · rw[if_pos hk]at h
      rw[rf_ret hk]
      by_cases hc:p-1<gap+o.2
      · rw[if_pos hc]at h
        injection h with h _
        have:=rf_done (r:=r) (s:=(gap+o.2,out+max 0 (min (p-gap) o.2))) (b:=false) (p:=p) hr (by dsimp only; by_cases h2:p=gap+o.2; (· exact .inr ⟨h2,rfl⟩); (· left; omega))
        dsimp only at this ⊢
        omega
      · rw[if_neg hc]at h
        have:=near_f hr (show gap+o.2≤p-1 by omega) h
        dsimp only
        rw[show max 0 (min (p-gap) o.2)=o.2 by omega]
        exact this
    · rw[if_neg (show ¬o.1=3 by omega),if_pos hk]at h
      rw[rf_del hk]
      by_cases hc:p-1<gap+o.2
      · rw[if_pos hc]at h
        injection h with _ h
        cases h
      · rw[if_neg hc]at h
        exact near_f hr (show gap+o.2≤p-1 by omega) h
noncomputable def insF (o:OpA):Int:=if o.kind=1∨o.kind=2 then opLen o else 0
noncomputable def retF (o:OpA):Int:=if o.kind=3 then opLen o else 0
noncomputable def delF (o:OpA):Int:=if o.kind=4 then o.count else 0
theorem pel_kind (o:OpA):(pelO o).1=o.kind:=rfl
theorem pel_len (o:OpA):(pelO o).2=opLen o:=rfl
theorem del_len {o:OpA}(h:o.kind=4):opLen o=o.count:=by unfold opLen; rw[if_neg (by omega),if_neg (by omega)]
theorem rf_sums {M p:Int}(b:Bool):∀ {xs:List OpA} {s:Int×Int},PlOk M (xs.map pelO)→((xs.map pelO).foldl (rfStep p b) s).1=s.1+sumI retF xs+sumI delF xs∧s.2≤((xs.map pelO).foldl (rfStep p b) s).2∧((xs.map pelO).foldl (rfStep p b) s).2≤s.2+sumI insF xs+sumI retF xs∧0≤sumI retF xs∧0≤sumI delF xs∧0≤sumI insF xs∧sB xs=sumI retF xs+sumI delF xs∧sR xs=sumI insF xs+sumI retF xs
  | [],s,_=>by simp[sumI]
  | o::r,s,hO=>by
    obtain⟨hk,h0,hr⟩:=PlOk.cons hO
    rw[pel_kind]at hk
    rw[pel_len]at h0
    rw[List.map_cons,List.foldl_cons]
    have hs:∀ f:OpA→Int,sumI f (o::r)=f o+sumI f r:=fun f=>rfl
    rw[hs,hs,hs,show sB (o::r)=opB o+sB r from rfl,show sR (o::r)=opR o+sR r from rfl]
    unfold insF retF delF opB opR
    rcases hk with hk|hk|hk
    · rw[rf_ins (show (pelO o).1=1∨(pelO o).1=2 from hk),pel_len,if_neg (show ¬o.kind=3 by omega),if_neg (show ¬o.kind=4 by omega),if_pos hk,if_neg (show ¬(o.kind=3∨o.kind=4) by omega)]
      by_cases hc:s.1<p∨(s.1=p∧b=true)
      · rw[if_pos hc]
        obtain⟨a1,a2,a3,a4,a5,a6,a7,a8⟩:=rf_sums (p:=p) b (xs:=r) (s:=(s.1,s.2+opLen o)) hr
        unfold insF retF delF at*
        dsimp only at a1 a2 a3
        refine⟨by omega,by omega,by omega,by omega,by omega,by omega,by omega,?_⟩
        simp only[if_neg (show ¬o.kind=4 by omega)]; omega
      · rw[if_neg hc]
        obtain⟨a1,a2,a3,a4,a5,a6,a7,a8⟩:=rf_sums (p:=p) b (xs:=r) (s:=(s.1,s.2)) hr
        unfold insF retF delF at*
        dsimp only at a1 a2 a3
        refine⟨by omega,by omega,by omega,by omega,by omega,by omega,by omega,?_⟩
        simp only[if_neg (show ¬o.kind=4 by omega)]; omega
    · rw[rf_ret (show (pelO o).1=3 from hk),pel_len,if_pos hk,if_neg (show ¬o.kind=4 by omega),if_neg (show ¬(o.kind=1∨o.kind=2) by omega),if_pos (show o.kind=3∨o.kind=4 by omega)]
      obtain⟨a1,a2,a3,a4,a5,a6,a7,a8⟩:=rf_sums (p:=p) b (xs:=r) (s:=(s.1+opLen o,s.2+max 0 (min (p-s.1) (opLen o)))) hr
      unfold insF retF delF at*
      dsimp only at a1 a2 a3
      refine⟨by omega,by omega,by omega,by omega,by omega,by omega,by omega,?_⟩
      simp only[if_neg (show ¬o.kind=4 by omega)]; omega
    · rw[rf_del (show (pelO o).1=4 from hk),pel_len,if_neg (show ¬o.kind=3 by omega),if_pos hk,if_neg (show ¬(o.kind=1∨o.kind=2) by omega),if_pos (show o.kind=3∨o.kind=4 by omega)]
      have hd:=del_len hk
      obtain⟨a1,a2,a3,a4,a5,a6,a7,a8⟩:=rf_sums (p:=p) b (xs:=r) (s:=(s.1+opLen o,s.2)) hr
      unfold insF retF delF at*
      dsimp only at a1 a2 a3
      refine⟨by omega,by omega,by omega,by omega,by omega,by omega,by omega,?_⟩
      simp only[if_pos hk]; omega
theorem rf_mono {M p:Int}:∀ {r:List (Int×Int)} {s t:Int×Int},PlOk M r→s.1=t.1→s.2≤t.2→(r.foldl (rfStep p false) s).2≤(r.foldl (rfStep p true) t).2
  | [],s,t,_,_,h=>h
  | o::r,s,t,hO,h1,h2=>by
    obtain⟨hk,h0,hr⟩:=hO.cons
    rw[List.foldl_cons,List.foldl_cons]
    rcases hk with hk|hk|hk
    · rw[rf_ins hk,rf_ins hk]
      refine rf_mono hr h1 ?_
      dsimp only
      by_cases ha:s.1<p
      · rw[if_pos (.inl ha),if_pos (.inl (by omega))]; omega
      · rw[if_neg (by rintro(h|⟨_,h⟩); (· exact ha h); (· cases h))]
        split<;>omega
    · rw[rf_ret hk,rf_ret hk]
      exact rf_mono hr (by dsimp only; omega) (by dsimp only; rw[h1]; omega)
    · rw[rf_del hk,rf_del hk]
      exact rf_mono hr (by dsimp only; omega) h2
structure NbP (xs:List OpA) (size p cx cy:Int):Prop where
  lo:0≤cy
  le:cy≤cx
  hi:cx≤size+sumI insF xs-sumI delF xs
  t:(nrP p (xs.map pelO) 0 0).2=true→cx=(nrP p (xs.map pelO) 0 0).1
  f:1≤p→(nrP (p-1) (xs.map pelO) 0 0).2=true→cy=(nrP (p-1) (xs.map pelO) 0 0).1+1
theorem nb_all {xs:List OpA}{size p:Int}(hb:badE xs=0)(hz:∀ i,i<xs.length→opSz (xs.getD i op0))(h1:sB xs≤size)(h2:size≤1073741900)(h3:sR xs≤1073741824)(hp0:0≤p)(hp1:p≤size):
    (plE xs p true).2=0∧(plE xs p false).2=0∧NbP xs size p (plE xs p true).1 (plE xs p false).1:=by
  have hO:PlOk 1099511627776 (xs.map pelO):=by have:=plOk_all hb hz xs.length; rwa [List.take_length]at this
  have e:=fun b=>(pl_rf (p:=p) b hp0 (xs.map pelO) hO).2
  have et:plOf p true (xs.map pelO)=_:=e true
  have ef:plOf p false (xs.map pelO)=_:=e false
  obtain⟨a1,a2,a3,a4,a5,a6,a7,a8⟩:=rf_sums (p:=p) true (xs:=xs) (s:=(0,0)) hO
  obtain⟨b1,b2,b3,_⟩:=rf_sums (p:=p) false (xs:=xs) (s:=(0,0)) hO
  have hm:=rf_mono (p:=p) (r:=xs.map pelO) (s:=(0,0)) (t:=(0,0)) hO rfl (Int.le_refl _)
  have nt:=fun(a:Int) h=>near_t (p:=p) (r:=xs.map pelO) (gap:=0) (out:=0) (a:=a) hO hp0 h
  have nf:=fun(a:Int) (h0:0≤p-1) h=>near_f (p:=p) (r:=xs.map pelO) (gap:=0) (out:=0) (a:=a) hO h0 h
  unfold rfFold at et ef
  dsimp only at a1 a2 a3 b1 b2 b3
  have g0:¬(p<0∨1099511627776<p):=by omega
  have gt:¬1099511627776<plOf p true (xs.map pelO):=by omega
  have gf:¬1099511627776<plOf p false (xs.map pelO):=by omega
  have pt:plE xs p true=(plOf p true (xs.map pelO),0):=by unfold plE; rw[if_neg g0,if_neg gt]
  have pf:plE xs p false=(plOf p false (xs.map pelO),0):=by unfold plE; rw[if_neg g0,if_neg gf]
  rw[pt,pf]
  refine⟨rfl,rfl,?_,?_,?_,fun h=>?_,fun h0 h=>?_⟩
  · dsimp only; omega
  · dsimp only; omega
  · dsimp only; omega
  · have h5:=nt (nrP p (xs.map pelO) 0 0).1 (Prod.ext rfl h)
    dsimp only
    rw[et]; exact h5
  · have h5:=nf (nrP (p-1) (xs.map pelO) 0 0).1 (by omega) (Prod.ext rfl h)
    dsimp only
    rw[ef]; exact h5
section
variable {xs : List OpA} {i : Nat} {p gap out : Int}
theorem nr_at (h:i<xs.length):nrP p ((xs.map pelO).drop i) gap out=if (xs.getD i op0).kind=3 then (if p<gap+opLen (xs.getD i op0)then (out+p-gap,true)else nrP p ((xs.map pelO).drop (i+1)) (gap+opLen (xs.getD i op0)) (out+opLen (xs.getD i op0)))else if (xs.getD i op0).kind=4 then (if p<gap+opLen (xs.getD i op0)then (0,false)else nrP p ((xs.map pelO).drop (i+1)) (gap+opLen (xs.getD i op0)) out)else nrP p ((xs.map pelO).drop (i+1)) gap (out+opLen (xs.getD i op0)):=by
  rw[List.drop_eq_getElem_cons (show i<(xs.map pelO).length by rw[List.length_map]; exact h),List.getElem_map,List.getD_eq_getElem?_getD,List.getElem?_eq_getElem h]
  rfl
theorem nr_end (h:xs.length≤i):nrP p ((xs.map pelO).drop i) gap out=(out+p-gap,true):=by rw[List.drop_eq_nil_of_le (by rw[List.length_map]; exact h)]; rfl
end
theorem opB_is {o:OpA}:opB o=if o.kind=3∨o.kind=4 then opLen o else 0:=rfl
theorem opR_is {o:OpA}:opR o=if o.kind=4 then 0 else opLen o:=rfl
theorem ins_bd {xs:List OpA}(hb:badE xs=0)(hz:∀ i,i<xs.length→opSz (xs.getD i op0))(i:Nat):0≤sumI insF (xs.take i)∧sumI insF (xs.take i)≤sR xs∧0≤sumI delF (xs.take i)∧sumI delF (xs.take i)≤sB xs:=by
  have hO:=plOk_all hb hz i
  obtain⟨_,_,_,a4,a5,a6,a7,a8⟩:=rf_sums (p:=0) true (xs:=xs.take i) (s:=(0,0)) hO
  have:=sum_take_le hb i
  omega
end Go.Proofs.YtlnnjfdonilgmaaGreatDoor
