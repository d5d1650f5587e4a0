/- How a law's row is closed: what arguments read as, opened into the walk's facts; and that they read so behind the call. No condition. -/
import Derived.Test.YtlnnjfdonilgmaaGreatDoorRows
import Derived.Test.YtlnnjfdonilgmaaGreatDoorKd
import Derived.Test.YtlnnjfdonilgmaaGreatDoorErr
import Derived.Carry
import Derived.ChangeSame
import Derived.Deep.Slices
import Derived.WideShapes
import Derived.Deep.Strs
set_option linter.unusedVariables false
set_option linter.unusedSimpArgs false
namespace Go.Proofs.YtlnnjfdonilgmaaGreatDoor.Close
open Go Go.RowKit Go.WideShapes Go.ChangeShapes Go.Proofs.YtlnnjfdonilgmaaGreatDoorW.PrintWords RX

theorem one_le {H:Type}(d:DataW H):1≤Rows.uptoBulk d:=by
  cases d with
  | lit l=>cases l<;>simp[Rows.uptoBulk]
  | nil=>simp[Rows.uptoBulk]
  | ptr d=>simp[Rows.uptoBulk]
  | slice elems spare=>simp[Rows.uptoBulk]
  | agg parts=>simp[Rows.uptoBulk]
  | iface t d=>simp[Rows.uptoBulk]
  | map entries=>simp[Rows.uptoBulk]
  | held h=>simp[Rows.uptoBulk]

def Reads (P:Program)(W:World){α:Type}(d:Kd α)(t:TypeId)(wt:α→Nat):Prop:=
  ∀ (H:Type) (enc:TypeId×Value→H) (fuel:Nat) (cs:List Value) (x:DataW H×List MemPlace),DataW.trod enc P W 0 (fun _=>true) true fuel t cs=some x→∃ a,d.K W a cs∧wt a≤Rows.uptoBulk x.1

theorem reads_int {P:Program}{W:World}{t:TypeId}{k:IntKind}(ht:P.underlying t=some (.int k)):Reads P W (Kd.int k) t (fun _=>1):=by
  intro H enc fuel cs x h
  obtain⟨n,rfl,rfl,_⟩:=DataW.trod_int ht h
  exact⟨n,rfl,one_le _⟩
def wsum {α:Type}(wt:α→Nat):List α→Nat
  | []=>0
  | x::r=>wt x+wsum wt r
theorem cells_at {w:World}{base:Nat}{a:Addr}:∀ {n:Nat} {cs:List Value},w.cells? base a n=some cs→cs.length=n∧∀ j u,cs[j]?=some u→w.cell? (a.add j)=some u:=by
  intro n cs h
  obtain⟨_,hl,hc⟩:=World.cells?_some h
  exact⟨hl,fun j u hu=>by rw[hc j (by have:=(List.getElem?_eq_some_iff.1 hu).1; omega)]; exact hu⟩

theorem bulk_all {H α:Type}{wt:α→Nat}:∀ (xs:List α) (ds:List (DataW H)),xs.length=ds.length→(∀ (i:Nat) a d,xs[i]?=some a→ds[i]?=some d→wt a≤Rows.uptoBulk d)→wsum wt xs≤Rows.uptoBulkAll ds
  | [],[],_,_=>by simp[wsum]
  | x::xs,d::ds,hl,h=>by
    have h1:=h 0 x d rfl rfl
    have h2:=bulk_all (wt:=wt) xs ds (by simpa using hl) (fun i a d ha hd=>h (i+1) a d (by simpa using ha) (by simpa using hd))
    simp only[wsum,Rows.uptoBulkAll]
    omega
  | [],_::_,hl,_=>by simp at hl
  | _::_,[],hl,_=>by simp at hl

theorem reads_slice {P:Program}{W:World}{α:Type}{d:Kd α}{t e:TypeId}{wt:α→Nat}(ht:P.underlying t=some (.slice e))(hs:P.cellsOf e=d.sz)(hd:Reads P W d e wt):Reads P W (Kd.slice e d) t (fun xs=>1+wsum wt xs):=by
  intro H enc fuel cs x h
  rcases Deep.open_slice ht h with ⟨rfl,rfl⟩|⟨a,len,cap,m,n,D,Pl,rfl,hb,hl,hm,hmm,rfl,hx⟩
  · exact⟨[],⟨none,0,rfl,Nat.le_refl _,⟨rfl,by simp,fun h=>by simp at h⟩⟩,by simp[wsum,Rows.uptoBulk]⟩
  · have hlm:len≤m:=by rw[hmm]; split<;>omega
    have each:∀ i,i<len→∃ p:α,(∃ c,c.length=d.sz∧d.K W p c∧∀ j u,c[j]?=some u→W.cell? (a.add (i*d.sz+j))=some u)∧wt p≤Rows.uptoBulk (D i):=by
      intro i hi
      obtain⟨cs',h1,h2⟩:=hx i (by omega)
      obtain⟨p,hp,hw⟩:=hd H enc _ _ _ h2
      obtain⟨hcl,hcc⟩:=cells_at h1
      refine⟨p,⟨cs',by rw[hcl,hs],hp,fun j u hu=>?_⟩,hw⟩
      have:=hcc j u hu
      rwa [RX.add_add,hs]at this
    obtain⟨f,hf⟩:=Classical.axiomOfChoice (fun i:Fin len=>each i.1 i.2)
    have hget:∀ (i:Nat) (p:α),(List.ofFn f)[i]?=some p→∃ h:i<len,p=f ⟨i,h⟩:=by
      intro i p hp
      rw[List.getElem?_ofFn]at hp
      split at hp
      · rename_i h; exact⟨h,by injection hp with hp; exact hp.symm⟩
      · cases hp
    refine⟨List.ofFn f,⟨some a,cap,by simp,by simpa using hl,⟨by simp,by simp only[List.length_ofFn]; simp only[maxLen]at hm; omega,fun _=>⟨a,rfl,fun j p hj=>?_⟩⟩⟩,?_⟩
    · obtain⟨h,rfl⟩:=hget j p hj
      exact(hf ⟨j,h⟩).1
    · simp only[Rows.uptoBulk]
      have:=bulk_all (wt:=wt) (List.ofFn f) ((List.range len).map D) (by simp) (fun i p dd hp hdd=>by
        obtain⟨h,rfl⟩:=hget i p hp
        have:dd=D i:=by simpa [h] using hdd.symm
        rw[this]
        exact(hf ⟨i,h⟩).2)
      omega

theorem reads_string {P:Program}{W:World}{t:TypeId}(ht:P.underlying t=some .string):Reads P W Kd.string t (fun s=>s.size+1):=by
  intro H enc fuel cs x h
  obtain⟨s,rfl,rfl,_⟩:=DataW.trod_string ht h
  exact⟨s,rfl,by show s.size+1≤s.data.toList.length+1; rw[Array.length_toList]; exact Nat.le_refl _⟩
theorem reads_struct2 {P:Program}{W:World}{α β:Type}{d0:Kd α}{d1:Kd β}{wt0:α→Nat}{wt1:β→Nat}{t:TypeId}{f0 f1:Field}(ht:P.underlying t=some (.struct #[f0,f1]))(r0:Reads P W d0 f0.type wt0)(r1:Reads P W d1 f1.type wt1)
    (o0:f0.offset=0) (o1:f1.offset=d0.sz) (c:P.cellsOf t=d0.sz+d1.sz) (c0:P.cellsOf f0.type=d0.sz) (c1:P.cellsOf f1.type=d1.sz):Reads P W (Kd.pair d0 d1) t (fun x=>1+(wt0 x.1+wt1 x.2)):=by
  intro H enc fuel cs x h
  obtain⟨y0,y1,n,rfl,hl,hy0,hy1⟩:=trod_struct2 ht h
  rw[o0,c0]at hy0
  rw[o1,c1]at hy1
  obtain⟨a,ha,wa⟩:=r0 H enc _ _ _ hy0
  obtain⟨b,hb,wb⟩:=r1 H enc _ _ _ hy1
  refine⟨(a,b),⟨_,_,?_,ha,hb⟩,?_⟩
  · rw[List.drop_zero,List.take_of_length_le (l:=cs.drop d0.sz) (by simp; omega),List.take_append_drop]
  · simp only[Rows.uptoBulk,Rows.uptoBulkAll]; omega
theorem reads_struct3 {P:Program}{W:World}{α β γ:Type}{d0:Kd α}{d1:Kd β}{d2:Kd γ}{wt0:α→Nat}{wt1:β→Nat}{wt2:γ→Nat}{t:TypeId}{f0 f1 f2:Field}(ht:P.underlying t=some (.struct #[f0,f1,f2]))(r0:Reads P W d0 f0.type wt0)(r1:Reads P W d1 f1.type wt1)(r2:Reads P W d2 f2.type wt2)
    (o0:f0.offset=0) (o1:f1.offset=d0.sz) (o2:f2.offset=d0.sz+d1.sz) (c:P.cellsOf t=d0.sz+d1.sz+d2.sz) (c0:P.cellsOf f0.type=d0.sz) (c1:P.cellsOf f1.type=d1.sz) (c2:P.cellsOf f2.type=d2.sz):
    Reads P W (Kd.pair d0 (Kd.pair d1 d2)) t (fun x=>1+(wt0 x.1+(wt1 x.2.1+wt2 x.2.2))):=by
  intro H enc fuel cs x h
  obtain⟨y0,y1,y2,n,rfl,hl,hy0,hy1,hy2⟩:=Deep.trod_struct3 ht h
  rw[o0,c0]at hy0
  rw[o1,c1]at hy1
  rw[o2,c2]at hy2
  obtain⟨a,ha,wa⟩:=r0 H enc _ _ _ hy0
  obtain⟨b,hb,wb⟩:=r1 H enc _ _ _ hy1
  obtain⟨e,he,we⟩:=r2 H enc _ _ _ hy2
  refine⟨(a,b,e),⟨_,_,?_,ha,_,_,rfl,hb,he⟩,?_⟩
  · rw[List.drop_zero,List.take_of_length_le (l:=cs.drop (d0.sz+d1.sz)) (by simp; omega),show cs.drop (d0.sz+d1.sz)=(cs.drop d0.sz).drop d1.sz from by rw[List.drop_drop],List.take_append_drop,List.take_append_drop]
  · simp only[Rows.uptoBulk,Rows.uptoBulkAll]; omega
theorem wsum_mem {α:Type}(wt:α→Nat):∀ {xs:List α} {x:α},x∈xs→wt x≤wsum wt xs
  | y::xs,x,h=>by
    rcases List.mem_cons.1 h with rfl|h
    · simp only[wsum]; omega
    · have:=wsum_mem wt h; simp only[wsum]; omega
theorem wsum_len {α:Type}{wt:α→Nat}(h1:∀ x,1≤wt x):∀ xs:List α,xs.length≤wsum wt xs
  | []=>Nat.le_refl _
  | x::xs=>by have:=wsum_len h1 xs; have:=h1 x; simp only[wsum,List.length_cons]; omega
theorem open_int_arg {P:Program}{W:World}{t:TypeId}{k:IntKind}(ht:P.underlying t=some (.int k)){H:Type}{enc:TypeId×Value→H}{base:Nat}{v:Value}{x:DataW H}{p:List MemPlace}
    (hv:Value.okWide P W .any base t v) (h:DataW.Trod enc P W 0 (fun _=>true) true t v x p):∃ n:Int,v=.int k n∧(Lit.int k n).wf=true:=by
  obtain⟨n,rfl⟩:=okWide_int ht hv
  obtain⟨fuel,hf⟩:=h
  obtain⟨m,he,_,hw⟩:=DataW.trod_int ht hf
  have he:Value.int k n=.int k m:=by simpa [Value.cells] using he
  injection he with _ he
  subst he
  exact⟨n,rfl,hw⟩
theorem open_slice_arg {P:Program}{W:World}{α:Type}{d:Kd α}{t e:TypeId}{wt:α→Nat}(ht:P.underlying t=some (.slice e))(hs:P.cellsOf e=d.sz)(hd:Reads P W d e wt){H:Type}{enc:TypeId×Value→H}{base:Nat}{v:Value}{x:DataW H}{p:List MemPlace}
    (hv:Value.okWide P W .any base t v) (h:DataW.Trod enc P W 0 (fun _=>true) true t v x p):∃ A c xs,v=.slice A xs.length c∧xs.length≤c∧d.C W A xs.length xs∧1+wsum wt xs≤Rows.uptoBulk x:=by
  obtain⟨A,n,c,rfl⟩:=okWide_slice ht hv
  obtain⟨fuel,hf⟩:=h
  obtain⟨xs,⟨A',c',he,hl,hC⟩,hw⟩:=reads_slice ht hs hd H enc fuel _ _ hf
  have he:Value.slice A n c=.slice A' xs.length c':=by simpa [Value.cells] using he
  injection he with h1 h2 h3
  subst h1; subst h2; subst h3
  exact⟨_,_,xs,rfl,hl,hC,hw⟩

theorem trodAll_stays {H:Type}{enc:TypeId×Value→H}{P:Program}(hl:laidOutB P=true){W W':World}{sp:Nat→Bool}(hb:Below W.heap.size W W'):∀ {ts:List TypeId} {vs:List Value} {ds:List (DataW H)} {ps:List MemPlace},
    (∀ t∈ts,P.readableRec t=true∧t<P.types.size)→DataW.TrodAll enc P W 0 (fun _=>true) true ts vs ds ps→(∀ x∈ps,x.block<W.heap.size)→(∀ x∈ps,sp x.block=true)→DataW.TrodAll enc P W' 0 sp true ts vs ds ps
  | [],[],[],_,_,h,_,_=>h
  | t::_,_::_,_::_,_,hp,⟨p,q,h1,h2,e⟩,hlt,hs=>by
    obtain⟨hr,hrow⟩:=hp t (by simp)
    refine⟨p,q,WideElems.Trod_stays hl hr hrow h1 (fun x hx=>hb.same (hlt x (by rw[e]; exact List.mem_append_left _ hx))) (fun x hx=>hs x (by rw[e]; exact List.mem_append_left _ hx)),?_,e⟩
    exact trodAll_stays hl hb (fun t ht=>hp t (by simp[ht])) h2 (fun x hx=>hlt x (by rw[e]; exact List.mem_append_right _ hx)) (fun x hx=>hs x (by rw[e]; exact List.mem_append_right _ hx))

theorem post_of_below {H:Type}{enc:TypeId×Value→H}{P:Program}{f:Func}{s:ChangeSpec}{apart fresh handsOn again:Bool}{W W':World}{args:Array Value}{v:Value}{ds gs:List (DataW H)}{before pa pv:List MemPlace}
    (hW:DataW.Whole enc P f.params.toList s.vars apart W args.toList ds gs before)
    (hres:∀ (b:Nat) (sp:Nat→Bool) (hd:Bool),DataW.TrodAll enc P W' b sp hd f.resultTypes.toList (v.resultList f.resultTypes.size) (s.fn H (ds++gs)).results [])
    (hargs:∀ sp:Nat→Bool,(∀ p∈before,sp p.block=true)→DataW.TrodAll enc P W' 0 sp true f.params.toList args.toList (s.fn H (ds++gs)).args pa)
    (hvars:∀ sp:Nat→Bool,(∀ p∈before,sp p.block=true)→DataW.TrodVars enc P W' sp s.vars (s.fn H (ds++gs)).vars pv)
    (hps:before=pa++pv) (hb:Below W.heap.size W W')
    (hok:∀ (j:Nat) (t:TypeId) (r:Value),f.resultTypes[j]?=some t→(v.resultList f.resultTypes.size)[j]?=some r→Value.okWide P W' .any 0 t r):
    s.post enc P f apart fresh handsOn again W args v W':=by
  have hlt:∀ p∈before,p.block<W.heap.size:=fun p hp=>hW.lt p hp
  have hold:∀ p∈before,(fun b=>decide (b<W.heap.size)) p.block=true:=fun p hp=>by simpa using hlt p hp
  refine⟨ds,gs,before,[],pa,pv,hW,hres _ _ _,hargs _ hold,hvars _ hold,World.keptBut_mono (fun p hp=>⟨hp,?_⟩) (hb.frame (· ∈before)),fun _=>?_⟩
  · rw[hps,List.mem_append]at hp
    exact Or.inr hp
  · obtain⟨_,_,_,_,_,hz,hn⟩:=hW
    refine⟨hok,_,_,([]++pa)++pv,⟨[]++pa,pv,trodAll_append (hargs _ (fun _ _=>rfl)) (hres _ _ _),hvars _ (fun _ _=>rfl),rfl,?_,?_⟩,?_⟩
    · intro b off hp
      have hin:MemPlace.cell b off∈before:=by rw[hps]; simpa using hp
      rw[hb.frozen (hlt _ hin)]
      exact hz b off hin
    · intro ha
      have:=hn ha
      rw[hps]at this
      simpa using this
    · intro p hp _
      rw[hps]
      simpa using hp

theorem law_post {H:Type}{enc:TypeId×Value→H}{P:Program}{f:Func}{s:ChangeSpec}{apart fresh handsOn again:Bool}{W W':World}{args:Array Value}{ds gs:List (DataW H)}{before:List MemPlace}{t:TypeId}(hl:laidOutB P=true)
    (hp:∀ t∈f.params.toList,P.readableRec t=true∧t<P.types.size) (hr:f.resultTypes=#[t]) (ht:P.underlying t=some .bool) (hv:s.vars=[])
    (hW:DataW.Whole enc P f.params.toList s.vars apart W args.toList ds gs before) (hfn:s.fn H ds={ results:=[.lit (.bool true)],args:=ds }) (hb:Below W.heap.size W W'):s.post enc P f apart fresh handsOn again W args (.bool true) W':=by
  have hW':=hW
  obtain⟨p,q,hA,hV,rfl,hfz,hnd⟩:=hW
  rw[hv]at hV
  obtain⟨rfl,rfl⟩:=trodVars_none hV
  have hlt:=fun x hx=>hW'.lt x hx
  refine post_of_below (pa:=p) (pv:=[]) hW' ?_ ?_ ?_ rfl hb ?_
  · intro b sp hd
    rw[List.append_nil,hfn,hr]
    exact trodAll_mk1 (shut_bool ht _)
  · intro sp hsp
    rw[List.append_nil,hfn]
    exact trodAll_stays hl hb hp hA (fun x hx=>hlt x (by simpa using hx)) (fun x hx=>hsp x (by simpa using hx))
  · intro sp hsp
    rw[List.append_nil,hfn,hv]
    exact rfl
  · exact ok_one hr rfl (okWide_bool_mk ht _)

theorem params_ok {P:Program}{ts:List TypeId}(h:(ts.all fun t=>P.readableRec t&&decide (t<P.types.size))=true):∀ t∈ts,P.readableRec t=true∧t<P.types.size:=by
  intro t ht
  have:=List.all_eq_true.1 h t ht
  simpa using this
end Go.Proofs.YtlnnjfdonilgmaaGreatDoor.Close
