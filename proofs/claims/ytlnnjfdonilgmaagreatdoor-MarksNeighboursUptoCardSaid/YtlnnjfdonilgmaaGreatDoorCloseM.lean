import Derived.Test.YtlnnjfdonilgmaaGreatDoorRows
import Derived.Test.YtlnnjfdonilgmaaGreatDoorMap
import Derived.Test.YtlnnjfdonilgmaaGreatDoorA1
import Derived.Carry
import Derived.ChangeSame
import Derived.Deep.Slices
import Derived.WideShapes
import Derived.Deep.Strs
import Derived.Test.YtlnnjfdonilgmaaGreatDoorChg
import Derived.Test.YtlnnjfdonilgmaaGreatDoorB1
import Derived.Test.YtlnnjfdonilgmaaGreatDoorAn3
import Derived.Test.YtlnnjfdonilgmaaGreatDoorK11
/- How a law's row is closed: what arguments read as, opened into the walk's facts; and that they read so behind the call. No condition. -/
set_option linter.unusedVariables false
set_option linter.unusedSimpArgs false
namespace Go.Proofs.YtlnnjfdonilgmaaGreatDoor.Close
open Go Go.RowKit Go.WideShapes Go.ChangeShapes Go.Proofs.YtlnnjfdonilgmaaGreatDoorW.PrintWords RX

theorem one_le {H:Type}(d:DataW H):1≤Rows.uptoBulk d:=by
  cases d with
  | lit l=>cases l<;>simp[Rows.uptoBulk]
  | nil=>simp[Rows.uptoBulk]
  | ptr d=>simp[Rows.uptoBulk]
  | slice elems spare=>simp[Rows.uptoBulk]
  | agg parts=>simp[Rows.uptoBulk]
  | iface t d=>simp[Rows.uptoBulk]
  | map entries=>simp[Rows.uptoBulk]
  | held h=>simp[Rows.uptoBulk]

def Reads (P:Program)(W:World){α:Type}(d:Kd α)(t:TypeId)(wt:α→Nat):Prop:=
  ∀ (H:Type) (enc:TypeId×Value→H) (fuel:Nat) (cs:List Value) (x:DataW H×List MemPlace),DataW.trod enc P W 0 (fun _=>true) true fuel t cs=some x→∃ a,d.K W a cs∧wt a≤Rows.uptoBulk x.1

theorem reads_int {P:Program}{W:World}{t:TypeId}{k:IntKind}(ht:P.underlying t=some (.int k)):Reads P W (Kd.int k) t (fun _=>1):=by
  intro H enc fuel cs x h
  obtain⟨n,rfl,rfl,_⟩:=DataW.trod_int ht h
  exact⟨n,rfl,one_le _⟩
def wsum {α:Type}(wt:α→Nat):List α→Nat
  | []=>0
  | x::r=>wt x+wsum wt r
theorem wsum_one {α:Type}(xs:List α):wsum (fun _=>1) xs=xs.length:=by
  induction xs with
  | nil=>rfl
  | cons x r ih=>simp only[wsum,List.length_cons,ih]; omega

theorem cells_at {w:World}{base:Nat}{a:Addr}:∀ {n:Nat} {cs:List Value},w.cells? base a n=some cs→cs.length=n∧∀ j u,cs[j]?=some u→w.cell? (a.add j)=some u:=by
  intro n cs h
  obtain⟨_,hl,hc⟩:=World.cells?_some h
  exact⟨hl,fun j u hu=>by rw[hc j (by have:=(List.getElem?_eq_some_iff.1 hu).1; omega)]; exact hu⟩

theorem bulk_all {H α:Type}{wt:α→Nat}:∀ (xs:List α) (ds:List (DataW H)),xs.length=ds.length→(∀ (i:Nat) a d,xs[i]?=some a→ds[i]?=some d→wt a≤Rows.uptoBulk d)→wsum wt xs≤Rows.uptoBulkAll ds
  | [],[],_,_=>by simp[wsum]
  | x::xs,d::ds,hl,h=>by
    have h1:=h 0 x d rfl rfl
    have h2:=bulk_all (wt:=wt) xs ds (by simpa using hl) (fun i a d ha hd=>h (i+1) a d (by simpa using ha) (by simpa using hd))
    simp only[wsum,Rows.uptoBulkAll]
    omega
  | [],_::_,hl,_=>by simp at hl
  | _::_,[],hl,_=>by simp at hl

theorem reads_slice {P:Program}{W:World}{α:Type}{d:Kd α}{t e:TypeId}{wt:α→Nat}(ht:P.underlying t=some (.slice e))(hs:P.cellsOf e=d.sz)(hd:Reads P W d e wt):Reads P W (Kd.slice e d) t (fun xs=>1+wsum wt xs):=by
  intro H enc fuel cs x h
  rcases Deep.open_slice ht h with ⟨rfl,rfl⟩|⟨a,len,cap,m,n,D,Pl,rfl,hb,hl,hm,hmm,rfl,hx⟩
  · exact⟨[],⟨none,0,rfl,Nat.le_refl _,⟨rfl,by simp,fun h=>by simp at h⟩⟩,by simp[wsum,Rows.uptoBulk]⟩
  · have hlm:len≤m:=by rw[hmm]; split<;>omega
    have each:∀ i,i<len→∃ p:α,(∃ c,c.length=d.sz∧d.K W p c∧∀ j u,c[j]?=some u→W.cell? (a.add (i*d.sz+j))=some u)∧wt p≤Rows.uptoBulk (D i):=by
      intro i hi
      obtain⟨cs',h1,h2⟩:=hx i (by omega)
      obtain⟨p,hp,hw⟩:=hd H enc _ _ _ h2
      obtain⟨hcl,hcc⟩:=cells_at h1
      refine⟨p,⟨cs',by rw[hcl,hs],hp,fun j u hu=>?_⟩,hw⟩
      have:=hcc j u hu
      rwa [RX.add_add,hs]at this
    obtain⟨f,hf⟩:=Classical.axiomOfChoice (fun i:Fin len=>each i.1 i.2)
    have hget:∀ (i:Nat) (p:α),(List.ofFn f)[i]?=some p→∃ h:i<len,p=f ⟨i,h⟩:=by
      intro i p hp
      rw[List.getElem?_ofFn]at hp
      split at hp
      · rename_i h; exact⟨h,by injection hp with hp; exact hp.symm⟩
      · cases hp
    refine⟨List.ofFn f,⟨some a,cap,by simp,by simpa using hl,⟨by simp,by simp only[List.length_ofFn]; simp only[maxLen]at hm; omega,fun _=>⟨a,rfl,fun j p hj=>?_⟩⟩⟩,?_⟩
    · obtain⟨h,rfl⟩:=hget j p hj
      exact(hf ⟨j,h⟩).1
    · simp only[Rows.uptoBulk]
      have:=bulk_all (wt:=wt) (List.ofFn f) ((List.range len).map D) (by simp) (fun i p dd hp hdd=>by
        obtain⟨h,rfl⟩:=hget i p hp
        have:dd=D i:=by simpa [h] using hdd.symm
        rw[this]
        exact(hf ⟨i,h⟩).2)
      omega

theorem reads_string {P:Program}{W:World}{t:TypeId}(ht:P.underlying t=some .string):Reads P W Kd.string t (fun s=>s.size+1):=by
  intro H enc fuel cs x h
  obtain⟨s,rfl,rfl,_⟩:=DataW.trod_string ht h
  exact⟨s,rfl,by show s.size+1≤s.data.toList.length+1; rw[Array.length_toList]; exact Nat.le_refl _⟩
theorem reads_struct2 {P:Program}{W:World}{α β:Type}{d0:Kd α}{d1:Kd β}{wt0:α→Nat}{wt1:β→Nat}{t:TypeId}{f0 f1:Field}(ht:P.underlying t=some (.struct #[f0,f1]))(r0:Reads P W d0 f0.type wt0)(r1:Reads P W d1 f1.type wt1)
    (o0:f0.offset=0) (o1:f1.offset=d0.sz) (c:P.cellsOf t=d0.sz+d1.sz) (c0:P.cellsOf f0.type=d0.sz) (c1:P.cellsOf f1.type=d1.sz):Reads P W (Kd.pair d0 d1) t (fun x=>1+(wt0 x.1+wt1 x.2)):=by
  intro H enc fuel cs x h
  obtain⟨y0,y1,n,rfl,hl,hy0,hy1⟩:=trod_struct2 ht h
  rw[o0,c0]at hy0
  rw[o1,c1]at hy1
  obtain⟨a,ha,wa⟩:=r0 H enc _ _ _ hy0
  obtain⟨b,hb,wb⟩:=r1 H enc _ _ _ hy1
  refine⟨(a,b),⟨_,_,?_,ha,hb⟩,?_⟩
  · rw[List.drop_zero,List.take_of_length_le (l:=cs.drop d0.sz) (by simp; omega),List.take_append_drop]
  · simp only[Rows.uptoBulk,Rows.uptoBulkAll]; omega
theorem reads_struct3 {P:Program}{W:World}{α β γ:Type}{d0:Kd α}{d1:Kd β}{d2:Kd γ}{wt0:α→Nat}{wt1:β→Nat}{wt2:γ→Nat}{t:TypeId}{f0 f1 f2:Field}(ht:P.underlying t=some (.struct #[f0,f1,f2]))(r0:Reads P W d0 f0.type wt0)(r1:Reads P W d1 f1.type wt1)(r2:Reads P W d2 f2.type wt2)
    (o0:f0.offset=0) (o1:f1.offset=d0.sz) (o2:f2.offset=d0.sz+d1.sz) (c:P.cellsOf t=d0.sz+d1.sz+d2.sz) (c0:P.cellsOf f0.type=d0.sz) (c1:P.cellsOf f1.type=d1.sz) (c2:P.cellsOf f2.type=d2.sz):
    Reads P W (Kd.pair d0 (Kd.pair d1 d2)) t (fun x=>1+(wt0 x.1+(wt1 x.2.1+wt2 x.2.2))):=by
  intro H enc fuel cs x h
  obtain⟨y0,y1,y2,n,rfl,hl,hy0,hy1,hy2⟩:=Deep.trod_struct3 ht h
  rw[o0,c0]at hy0
  rw[o1,c1]at hy1
  rw[o2,c2]at hy2
  obtain⟨a,ha,wa⟩:=r0 H enc _ _ _ hy0
  obtain⟨b,hb,wb⟩:=r1 H enc _ _ _ hy1
  obtain⟨e,he,we⟩:=r2 H enc _ _ _ hy2
  refine⟨(a,b,e),⟨_,_,?_,ha,_,_,rfl,hb,he⟩,?_⟩
  · rw[List.drop_zero,List.take_of_length_le (l:=cs.drop (d0.sz+d1.sz)) (by simp; omega),show cs.drop (d0.sz+d1.sz)=(cs.drop d0.sz).drop d1.sz from by rw[List.drop_drop],List.take_append_drop,List.take_append_drop]
  · simp only[Rows.uptoBulk,Rows.uptoBulkAll]; omega
theorem wsum_mem {α:Type}(wt:α→Nat):∀ {xs:List α} {x:α},x∈xs→wt x≤wsum wt xs
  | y::xs,x,h=>by
    rcases List.mem_cons.1 h with rfl|h
    · simp only[wsum]; omega
    · have:=wsum_mem wt h; simp only[wsum]; omega
theorem wsum_len {α:Type}{wt:α→Nat}(h1:∀ x,1≤wt x):∀ xs:List α,xs.length≤wsum wt xs
  | []=>Nat.le_refl _
  | x::xs=>by have:=wsum_len h1 xs; have:=h1 x; simp only[wsum,List.length_cons]; omega
theorem open_int_arg {P:Program}{W:World}{t:TypeId}{k:IntKind}(ht:P.underlying t=some (.int k)){H:Type}{enc:TypeId×Value→H}{base:Nat}{v:Value}{x:DataW H}{p:List MemPlace}
    (hv:Value.okWide P W .any base t v) (h:DataW.Trod enc P W 0 (fun _=>true) true t v x p):∃ n:Int,v=.int k n∧(Lit.int k n).wf=true:=by
  obtain⟨n,rfl⟩:=okWide_int ht hv
  obtain⟨fuel,hf⟩:=h
  obtain⟨m,he,_,hw⟩:=DataW.trod_int ht hf
  have he:Value.int k n=.int k m:=by simpa [Value.cells] using he
  injection he with _ he
  subst he
  exact⟨n,rfl,hw⟩
theorem open_slice_arg {P:Program}{W:World}{α:Type}{d:Kd α}{t e:TypeId}{wt:α→Nat}(ht:P.underlying t=some (.slice e))(hs:P.cellsOf e=d.sz)(hd:Reads P W d e wt){H:Type}{enc:TypeId×Value→H}{base:Nat}{v:Value}{x:DataW H}{p:List MemPlace}
    (hv:Value.okWide P W .any base t v) (h:DataW.Trod enc P W 0 (fun _=>true) true t v x p):∃ A c xs,v=.slice A xs.length c∧xs.length≤c∧d.C W A xs.length xs∧1+wsum wt xs≤Rows.uptoBulk x:=by
  obtain⟨A,n,c,rfl⟩:=okWide_slice ht hv
  obtain⟨fuel,hf⟩:=h
  obtain⟨xs,⟨A',c',he,hl,hC⟩,hw⟩:=reads_slice ht hs hd H enc fuel _ _ hf
  have he:Value.slice A n c=.slice A' xs.length c':=by simpa [Value.cells] using he
  injection he with h1 h2 h3
  subst h1; subst h2; subst h3
  exact⟨_,_,xs,rfl,hl,hC,hw⟩

theorem trodAll_stays {H:Type}{enc:TypeId×Value→H}{P:Program}(hl:laidOutB P=true){W W':World}{sp:Nat→Bool}(hb:Below W.heap.size W W'):∀ {ts:List TypeId} {vs:List Value} {ds:List (DataW H)} {ps:List MemPlace},
    (∀ t∈ts,P.readableRec t=true∧t<P.types.size)→DataW.TrodAll enc P W 0 (fun _=>true) true ts vs ds ps→(∀ x∈ps,x.block<W.heap.size)→(∀ x∈ps,sp x.block=true)→DataW.TrodAll enc P W' 0 sp true ts vs ds ps
  | [],[],[],_,_,h,_,_=>h
  | t::_,_::_,_::_,_,hp,⟨p,q,h1,h2,e⟩,hlt,hs=>by
    obtain⟨hr,hrow⟩:=hp t (by simp)
    refine⟨p,q,WideElems.Trod_stays hl hr hrow h1 (fun x hx=>hb.same (hlt x (by rw[e]; exact List.mem_append_left _ hx))) (fun x hx=>hs x (by rw[e]; exact List.mem_append_left _ hx)),?_,e⟩
    exact trodAll_stays hl hb (fun t ht=>hp t (by simp[ht])) h2 (fun x hx=>hlt x (by rw[e]; exact List.mem_append_right _ hx)) (fun x hx=>hs x (by rw[e]; exact List.mem_append_right _ hx))

theorem post_of_below {H:Type}{enc:TypeId×Value→H}{P:Program}{f:Func}{s:ChangeSpec}{apart fresh handsOn again:Bool}{W W':World}{args:Array Value}{v:Value}{ds gs:List (DataW H)}{before pa pv:List MemPlace}
    (hW:DataW.Whole enc P f.params.toList s.vars apart W args.toList ds gs before)
    (hres:∀ (b:Nat) (sp:Nat→Bool) (hd:Bool),DataW.TrodAll enc P W' b sp hd f.resultTypes.toList (v.resultList f.resultTypes.size) (s.fn H (ds++gs)).results [])
    (hargs:∀ sp:Nat→Bool,(∀ p∈before,sp p.block=true)→DataW.TrodAll enc P W' 0 sp true f.params.toList args.toList (s.fn H (ds++gs)).args pa)
    (hvars:∀ sp:Nat→Bool,(∀ p∈before,sp p.block=true)→DataW.TrodVars enc P W' sp s.vars (s.fn H (ds++gs)).vars pv)
    (hps:before=pa++pv) (hb:Below W.heap.size W W')
    (hok:∀ (j:Nat) (t:TypeId) (r:Value),f.resultTypes[j]?=some t→(v.resultList f.resultTypes.size)[j]?=some r→Value.okWide P W' .any 0 t r):
    s.post enc P f apart fresh handsOn again W args v W':=by
  have hlt:∀ p∈before,p.block<W.heap.size:=fun p hp=>hW.lt p hp
  have hold:∀ p∈before,(fun b=>decide (b<W.heap.size)) p.block=true:=fun p hp=>by simpa using hlt p hp
  refine⟨ds,gs,before,[],pa,pv,hW,hres _ _ _,hargs _ hold,hvars _ hold,World.keptBut_mono (fun p hp=>⟨hp,?_⟩) (hb.frame (· ∈before)),fun _=>?_⟩
  · rw[hps,List.mem_append]at hp
    exact Or.inr hp
  · obtain⟨_,_,_,_,_,hz,hn⟩:=hW
    refine⟨hok,_,_,([]++pa)++pv,⟨[]++pa,pv,trodAll_append (hargs _ (fun _ _=>rfl)) (hres _ _ _),hvars _ (fun _ _=>rfl),rfl,?_,?_⟩,?_⟩
    · intro b off hp
      have hin:MemPlace.cell b off∈before:=by rw[hps]; simpa using hp
      rw[hb.frozen (hlt _ hin)]
      exact hz b off hin
    · intro ha
      have:=hn ha
      rw[hps]at this
      simpa using this
    · intro p hp _
      rw[hps]
      simpa using hp

theorem law_post {H:Type}{enc:TypeId×Value→H}{P:Program}{f:Func}{s:ChangeSpec}{apart fresh handsOn again:Bool}{W W':World}{args:Array Value}{ds gs:List (DataW H)}{before:List MemPlace}{t:TypeId}(hl:laidOutB P=true)
    (hp:∀ t∈f.params.toList,P.readableRec t=true∧t<P.types.size) (hr:f.resultTypes=#[t]) (ht:P.underlying t=some .bool) (hv:s.vars=[])
    (hW:DataW.Whole enc P f.params.toList s.vars apart W args.toList ds gs before) (hfn:s.fn H ds={ results:=[.lit (.bool true)],args:=ds }) (hb:Below W.heap.size W W'):s.post enc P f apart fresh handsOn again W args (.bool true) W':=by
  have hW':=hW
  obtain⟨p,q,hA,hV,rfl,hfz,hnd⟩:=hW
  rw[hv]at hV
  obtain⟨rfl,rfl⟩:=trodVars_none hV
  have hlt:=fun x hx=>hW'.lt x hx
  refine post_of_below (pa:=p) (pv:=[]) hW' ?_ ?_ ?_ rfl hb ?_
  · intro b sp hd
    rw[List.append_nil,hfn,hr]
    exact trodAll_mk1 (shut_bool ht _)
  · intro sp hsp
    rw[List.append_nil,hfn]
    exact trodAll_stays hl hb hp hA (fun x hx=>hlt x (by simpa using hx)) (fun x hx=>hsp x (by simpa using hx))
  · intro sp hsp
    rw[List.append_nil,hfn,hv]
    exact rfl
  · exact ok_one hr rfl (okWide_bool_mk ht _)

theorem params_ok {P:Program}{ts:List TypeId}(h:(ts.all fun t=>P.readableRec t&&decide (t<P.types.size))=true):∀ t∈ts,P.readableRec t=true∧t<P.types.size:=by
  intro t ht
  have:=List.all_eq_true.1 h t ht
  simpa using this
def wtAt (x:At):Nat:=1+((x.1.size+1)+(1+(1+(1+(x.2.2.2.size+1)))))
theorem reads_attr {W:World}:Reads Tryz.prog W kAttr 148 wtAt:=
  reads_struct2 Tryz.underlying148 (reads_string Tryz.underlying9) (reads_struct3 (d0:=Kd.int .i64) (d1:=Kd.int .i64) (d2:=Kd.string) (wt0:=fun _=>1) (wt1:=fun _=>1) (wt2:=fun s=>s.size+1) Tryz.underlying67 (reads_int Tryz.underlying3) (reads_int Tryz.underlying2) (reads_string Tryz.underlying9) rfl rfl rfl (by kernel_rfl) (by kernel_rfl) (by kernel_rfl) (by kernel_rfl)) rfl rfl (by kernel_rfl) (by kernel_rfl) (by kernel_rfl)
theorem at_bulk2 {xs:List At}{B:Nat}(h:1+wsum wtAt xs≤B)(hB:B≤1048576):xs.length≤1048576∧∀ i,i<xs.length→(xs.getD i at0).1.size≤100000000∧(xs.getD i at0).2.2.2.size≤100000000:=by
  refine⟨?_,fun i hi=>?_⟩
  · have:=wsum_len (wt:=wtAt) (fun x=>by unfold wtAt; omega) xs
    omega
  · have hm:xs.getD i at0∈xs:=by rw[List.getD_eq_getElem?_getD,List.getElem?_eq_getElem hi]; exact List.getElem_mem hi
    have:=wsum_mem wtAt hm
    have e:wtAt (xs.getD i at0)=1+(((xs.getD i at0).1.size+1)+(1+(1+(1+((xs.getD i at0).2.2.2.size+1))))):=rfl
    omega
set_option maxRecDepth 100000
def wtOp (o:OpA):Nat:=1+(1+((o.text.size+1)+((1+(1+(1+(o.vt.size+1))))+(1+(1+wsum wtAt o.attrs)))))
theorem reads_plain {W:World}:Reads Tryz.prog W (Kd.pair (Kd.int .i64) (Kd.pair (Kd.int .i64) Kd.string)) 67 (fun x=>1+(1+(1+(x.2.2.size+1)))):=
  reads_struct3 (d0:=Kd.int .i64) (d1:=Kd.int .i64) (d2:=Kd.string) (wt0:=fun _=>1) (wt1:=fun _=>1) (wt2:=fun s=>s.size+1) Tryz.underlying67 (reads_int Tryz.underlying3) (reads_int Tryz.underlying2) (reads_string Tryz.underlying9) rfl rfl rfl (by kernel_rfl) (by kernel_rfl) (by kernel_rfl) (by kernel_rfl)
theorem reads_attrs {W:World}:Reads Tryz.prog W kAttrs 68 (fun xs=>1+wsum wtAt xs):=reads_slice Tryz.underlying68 (by kernel_rfl) reads_attr
theorem reads_op {W:World}:Reads Tryz.prog W kOp 70 wtOp:=by
  intro H enc fuel cs x h
  obtain⟨xs,n,_,rfl,hl,hlen,hf⟩:=DataW.trod_struct Tryz.underlying70 h
  rw[show Tryz.prog.cellsOf 70=7 from by kernel_rfl]at hl
  match cs,hl with
  | [c0,c1,c2,c3,c4,c5,c6],_=>
    match xs,hlen with
    | [y0,y1,y2,y3,y4],_=>
      have h0:DataW.trod enc Tryz.prog W 0 (fun _=>true) true n 3 [c0]=some y0:=by simpa [show Tryz.prog.cellsOf 3=1 from by kernel_rfl] using hf 0 _ rfl
      have h1:DataW.trod enc Tryz.prog W 0 (fun _=>true) true n 9 [c1]=some y1:=by simpa [show Tryz.prog.cellsOf 9=1 from by kernel_rfl] using hf 1 _ rfl
      have h2:DataW.trod enc Tryz.prog W 0 (fun _=>true) true n 67 [c2,c3,c4]=some y2:=by simpa [show Tryz.prog.cellsOf 67=3 from by kernel_rfl] using hf 2 _ rfl
      have h3:DataW.trod enc Tryz.prog W 0 (fun _=>true) true n 3 [c5]=some y3:=by simpa [show Tryz.prog.cellsOf 3=1 from by kernel_rfl] using hf 3 _ rfl
      have h4:DataW.trod enc Tryz.prog W 0 (fun _=>true) true n 68 [c6]=some y4:=by simpa [show Tryz.prog.cellsOf 68=1 from by kernel_rfl] using hf 4 _ rfl
      obtain⟨k,e0,rfl,_⟩:=DataW.trod_int Tryz.underlying3 h0
      obtain⟨s,e1,w1⟩:=reads_string Tryz.underlying9 H enc _ _ _ h1
      obtain⟨p,e2,w2⟩:=reads_plain H enc _ _ _ h2
      obtain⟨m,e3,rfl,_⟩:=DataW.trod_int Tryz.underlying3 h3
      obtain⟨at4,e4,w4⟩:=reads_attrs H enc _ _ _ h4
      obtain⟨A,c,e4,hl4,hC⟩:=e4
      obtain⟨_,_,e2,rfl,_,_,rfl,rfl,rfl⟩:=e2
      obtain rfl:c0=_:=(List.cons.inj e0).1
      obtain rfl:c1=_:=(List.cons.inj e1).1
      obtain rfl:c5=_:=(List.cons.inj e3).1
      obtain rfl:c6=_:=(List.cons.inj e4).1
      simp only[List.singleton_append,List.cons.injEq,and_true]at e2
      obtain⟨rfl,rfl,rfl⟩:=e2
      refine⟨⟨k,s,p.1,p.2.1,p.2.2,m,at4⟩,kOp_K_of (x:=⟨k,s,p.1,p.2.1,p.2.2,m,at4⟩) hl4 hC,?_⟩
      have b0:=one_le (DataW.lit (H:=H) (.int .i64 k))
      simp only[Rows.uptoBulk,Rows.uptoBulkAll,wtOp,List.map_cons,List.map_nil]at*
      omega
theorem op_sz {o:OpA}(h:wtOp o≤1048576):opSz o:=by
  unfold wtOp at h
  obtain⟨h1,h2⟩:=at_bulk2 (xs:=o.attrs) (B:=1048576) (by omega) (Nat.le_refl _)
  exact⟨by omega,by omega,by omega,h2⟩
theorem op_bulk {xs:List OpA}{B:Nat}(h:1+wsum wtOp xs≤B)(hB:B≤1048576):xs.length≤1048576∧∀ i,i<xs.length→opSz (xs.getD i op0):=by
  refine⟨?_,fun i hi=>?_⟩
  · have:=wsum_len (wt:=wtOp) (fun x=>by unfold wtOp; omega) xs
    omega
  · have:=wsum_mem wtOp (getD_mem op0 hi)
    exact op_sz (by omega)
theorem wsum_ten {α:Type}{wt:α→Nat}(h1:∀ x,9≤wt x):∀ xs:List α,9*xs.length≤wsum wt xs
  | []=>Nat.le_refl _
  | x::xs=>by have:=wsum_ten h1 xs; have:=h1 x; simp only[wsum,List.length_cons]; omega
theorem wsum_tx :∀ xs:List OpA,B.txS xs≤wsum wtOp xs
  | []=>Nat.le_refl _
  | x::xs=>by have:=wsum_tx xs; have hw:x.text.size≤wtOp x:=(by unfold wtOp; omega); simp only[wsum,B.txS]; omega
theorem op_bulk3 {xs:List OpA}{q:Nat}(h:1+wsum wtOp xs≤q)(hB:q≤1048576):xs.length≤116508∧(∀ i,i<xs.length→opSz (xs.getD i op0))∧B.txS xs≤1048576:=by
  have h1:=wsum_ten (wt:=wtOp) (fun x=>by unfold wtOp; omega) xs
  have h2:=wsum_tx xs
  exact⟨by omega,(op_bulk h hB).2,by omega⟩
end Go.Proofs.YtlnnjfdonilgmaaGreatDoor.Close
