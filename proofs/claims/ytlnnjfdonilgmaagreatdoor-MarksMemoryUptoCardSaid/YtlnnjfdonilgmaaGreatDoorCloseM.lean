import Derived.Test.YtlnnjfdonilgmaaGreatDoorClose
import Derived.Test.YtlnnjfdonilgmaaGreatDoorOp
import Derived.Test.YtlnnjfdonilgmaaGreatDoorB1
import Derived.Test.YtlnnjfdonilgmaaGreatDoorAn3
import Derived.Test.YtlnnjfdonilgmaaGreatDoorParts
/- Lists of attributes as arguments. No condition. -/
set_option linter.unusedVariables false
set_option linter.unusedSimpArgs false
namespace Go.Proofs.YtlnnjfdonilgmaaGreatDoor.Close
open Go Go.RowKit Go.WideShapes Go.ChangeShapes Go.Proofs.YtlnnjfdonilgmaaGreatDoorW.PrintWords RX
def wtAt (x:At):Nat:=1+((x.1.size+1)+(1+(1+(1+(x.2.2.2.size+1)))))
theorem reads_attr {W:World}:Reads Tryz.prog W kAttr 148 wtAt:=
  reads_struct2 Tryz.underlying148 (reads_string Tryz.underlying9) (reads_struct3 (d0:=Kd.int .i64) (d1:=Kd.int .i64) (d2:=Kd.string) (wt0:=fun _=>1) (wt1:=fun _=>1) (wt2:=fun s=>s.size+1) Tryz.underlying67 (reads_int Tryz.underlying3) (reads_int Tryz.underlying2) (reads_string Tryz.underlying9) rfl rfl rfl (by kernel_rfl) (by kernel_rfl) (by kernel_rfl) (by kernel_rfl)) rfl rfl (by kernel_rfl) (by kernel_rfl) (by kernel_rfl)
theorem at_bulk2 {xs:List At}{B:Nat}(h:1+wsum wtAt xs≤B)(hB:B≤1048576):xs.length≤1048576∧∀ i,i<xs.length→(xs.getD i at0).1.size≤100000000∧(xs.getD i at0).2.2.2.size≤100000000:=by
  refine⟨?_,fun i hi=>?_⟩
  · have:=wsum_len (wt:=wtAt) (fun x=>by unfold wtAt; omega) xs
    omega
  · have hm:xs.getD i at0∈xs:=by rw[List.getD_eq_getElem?_getD,List.getElem?_eq_getElem hi]; exact List.getElem_mem hi
    have:=wsum_mem wtAt hm
    have e:wtAt (xs.getD i at0)=1+(((xs.getD i at0).1.size+1)+(1+(1+(1+((xs.getD i at0).2.2.2.size+1))))):=rfl
    omega
set_option maxRecDepth 100000
def wtOp (o:OpA):Nat:=1+(1+((o.text.size+1)+((1+(1+(1+(o.vt.size+1))))+(1+(1+wsum wtAt o.attrs)))))
theorem reads_plain {W:World}:Reads Tryz.prog W (Kd.pair (Kd.int .i64) (Kd.pair (Kd.int .i64) Kd.string)) 67 (fun x=>1+(1+(1+(x.2.2.size+1)))):=
  reads_struct3 (d0:=Kd.int .i64) (d1:=Kd.int .i64) (d2:=Kd.string) (wt0:=fun _=>1) (wt1:=fun _=>1) (wt2:=fun s=>s.size+1) Tryz.underlying67 (reads_int Tryz.underlying3) (reads_int Tryz.underlying2) (reads_string Tryz.underlying9) rfl rfl rfl (by kernel_rfl) (by kernel_rfl) (by kernel_rfl) (by kernel_rfl)
theorem reads_attrs {W:World}:Reads Tryz.prog W kAttrs 68 (fun xs=>1+wsum wtAt xs):=reads_slice Tryz.underlying68 (by kernel_rfl) reads_attr
theorem reads_op {W:World}:Reads Tryz.prog W kOp 70 wtOp:=by
  intro H enc fuel cs x h
  obtain⟨xs,n,_,rfl,hl,hlen,hf⟩:=DataW.trod_struct Tryz.underlying70 h
  rw[show Tryz.prog.cellsOf 70=7 from by kernel_rfl]at hl
  match cs,hl with
  | [c0,c1,c2,c3,c4,c5,c6],_=>
    match xs,hlen with
    | [y0,y1,y2,y3,y4],_=>
      have h0:DataW.trod enc Tryz.prog W 0 (fun _=>true) true n 3 [c0]=some y0:=by simpa [show Tryz.prog.cellsOf 3=1 from by kernel_rfl] using hf 0 _ rfl
      have h1:DataW.trod enc Tryz.prog W 0 (fun _=>true) true n 9 [c1]=some y1:=by simpa [show Tryz.prog.cellsOf 9=1 from by kernel_rfl] using hf 1 _ rfl
      have h2:DataW.trod enc Tryz.prog W 0 (fun _=>true) true n 67 [c2,c3,c4]=some y2:=by simpa [show Tryz.prog.cellsOf 67=3 from by kernel_rfl] using hf 2 _ rfl
      have h3:DataW.trod enc Tryz.prog W 0 (fun _=>true) true n 3 [c5]=some y3:=by simpa [show Tryz.prog.cellsOf 3=1 from by kernel_rfl] using hf 3 _ rfl
      have h4:DataW.trod enc Tryz.prog W 0 (fun _=>true) true n 68 [c6]=some y4:=by simpa [show Tryz.prog.cellsOf 68=1 from by kernel_rfl] using hf 4 _ rfl
      obtain⟨k,e0,rfl,_⟩:=DataW.trod_int Tryz.underlying3 h0
      obtain⟨s,e1,w1⟩:=reads_string Tryz.underlying9 H enc _ _ _ h1
      obtain⟨p,e2,w2⟩:=reads_plain H enc _ _ _ h2
      obtain⟨m,e3,rfl,_⟩:=DataW.trod_int Tryz.underlying3 h3
      obtain⟨at4,e4,w4⟩:=reads_attrs H enc _ _ _ h4
      obtain⟨A,c,e4,hl4,hC⟩:=e4
      obtain⟨_,_,e2,rfl,_,_,rfl,rfl,rfl⟩:=e2
      obtain rfl:c0=_:=(List.cons.inj e0).1
      obtain rfl:c1=_:=(List.cons.inj e1).1
      obtain rfl:c5=_:=(List.cons.inj e3).1
      obtain rfl:c6=_:=(List.cons.inj e4).1
      simp only[List.singleton_append,List.cons.injEq,and_true]at e2
      obtain⟨rfl,rfl,rfl⟩:=e2
      refine⟨⟨k,s,p.1,p.2.1,p.2.2,m,at4⟩,kOp_K_of (x:=⟨k,s,p.1,p.2.1,p.2.2,m,at4⟩) hl4 hC,?_⟩
      have b0:=one_le (DataW.lit (H:=H) (.int .i64 k))
      simp only[Rows.uptoBulk,Rows.uptoBulkAll,wtOp,List.map_cons,List.map_nil]at*
      omega
theorem op_sz {o:OpA}(h:wtOp o≤1048576):opSz o:=by
  unfold wtOp at h
  obtain⟨h1,h2⟩:=at_bulk2 (xs:=o.attrs) (B:=1048576) (by omega) (Nat.le_refl _)
  exact⟨by omega,by omega,by omega,h2⟩
theorem op_bulk {xs:List OpA}{B:Nat}(h:1+wsum wtOp xs≤B)(hB:B≤1048576):xs.length≤1048576∧∀ i,i<xs.length→opSz (xs.getD i op0):=by
  refine⟨?_,fun i hi=>?_⟩
  · have:=wsum_len (wt:=wtOp) (fun x=>by unfold wtOp; omega) xs
    omega
  · have:=wsum_mem wtOp (getD_mem op0 hi)
    exact op_sz (by omega)
theorem wsum_ten {α:Type}{wt:α→Nat}(h1:∀ x,9≤wt x):∀ xs:List α,9*xs.length≤wsum wt xs
  | []=>Nat.le_refl _
  | x::xs=>by have:=wsum_ten h1 xs; have:=h1 x; simp only[wsum,List.length_cons]; omega
theorem wsum_tx :∀ xs:List OpA,B.txS xs≤wsum wtOp xs
  | []=>Nat.le_refl _
  | x::xs=>by have:=wsum_tx xs; have hw:x.text.size≤wtOp x:=(by unfold wtOp; omega); simp only[wsum,B.txS]; omega
theorem op_bulk3 {xs:List OpA}{q:Nat}(h:1+wsum wtOp xs≤q)(hB:q≤1048576):xs.length≤116508∧(∀ i,i<xs.length→opSz (xs.getD i op0))∧B.txS xs≤1048576:=by
  have h1:=wsum_ten (wt:=wtOp) (fun x=>by unfold wtOp; omega) xs
  have h2:=wsum_tx xs
  exact⟨by omega,(op_bulk h hB).2,by omega⟩
def wtMop (o:MOp):Nat:=1+(1+(1+((1+((o.mark.1.size+1)+(1+1)))+(1+(1+wsum wtOp o.ops)))))
theorem reads_mark {W:World}:Reads Tryz.prog W kMark 31 (fun x=>1+((x.1.size+1)+(1+1))):=
  reads_struct3 (d0:=Kd.string) (d1:=Kd.int .i64) (d2:=Kd.int .i64) (wt0:=fun s=>s.size+1) (wt1:=fun _=>1) (wt2:=fun _=>1) Tryz.underlying31 (reads_string Tryz.underlying9) (reads_int Tryz.underlying3) (reads_int Tryz.underlying3) rfl rfl rfl (by kernel_rfl) (by kernel_rfl) (by kernel_rfl) (by kernel_rfl)
theorem reads_ops {W:World}:Reads Tryz.prog W (Kd.slice 70 kOp) 32 (fun xs=>1+wsum wtOp xs):=reads_slice Tryz.underlying32 (by kernel_rfl) reads_op
theorem reads_mop {W:World}:Reads Tryz.prog W kMOp 34 wtMop:=by
  intro H enc fuel cs x h
  obtain⟨xs,n,_,rfl,hl,hlen,hf⟩:=DataW.trod_struct Tryz.underlying34 h
  rw[show Tryz.prog.cellsOf 34=7 from by kernel_rfl]at hl
  match cs,hl with
  | [c0,c1,c2,c3,c4,c5,c6],_=>
    match xs,hlen with
    | [y0,y1,y2,y3,y4],_=>
      have h0:DataW.trod enc Tryz.prog W 0 (fun _=>true) true n 3 [c0]=some y0:=by simpa [show Tryz.prog.cellsOf 3=1 from by kernel_rfl] using hf 0 _ rfl
      have h1:DataW.trod enc Tryz.prog W 0 (fun _=>true) true n 4 [c1]=some y1:=by simpa [show Tryz.prog.cellsOf 4=1 from by kernel_rfl] using hf 1 _ rfl
      have h2:DataW.trod enc Tryz.prog W 0 (fun _=>true) true n 31 [c2,c3,c4]=some y2:=by simpa [show Tryz.prog.cellsOf 31=3 from by kernel_rfl] using hf 2 _ rfl
      have h3:DataW.trod enc Tryz.prog W 0 (fun _=>true) true n 3 [c5]=some y3:=by simpa [show Tryz.prog.cellsOf 3=1 from by kernel_rfl] using hf 3 _ rfl
      have h4:DataW.trod enc Tryz.prog W 0 (fun _=>true) true n 32 [c6]=some y4:=by simpa [show Tryz.prog.cellsOf 32=1 from by kernel_rfl] using hf 4 _ rfl
      obtain⟨k,e0,rfl,_⟩:=DataW.trod_int Tryz.underlying3 h0
      obtain⟨b,e1,rfl⟩:=DataW.trod_bool Tryz.underlying4 h1
      obtain⟨p,e2,w2⟩:=reads_mark H enc _ _ _ h2
      obtain⟨m,e3,rfl,_⟩:=DataW.trod_int Tryz.underlying3 h3
      obtain⟨os,e4,w4⟩:=reads_ops H enc _ _ _ h4
      obtain⟨A,c,e4,hl4,hC⟩:=e4
      have e2:=kMark_K e2
      obtain rfl:c0=_:=(List.cons.inj e0).1
      obtain rfl:c1=_:=(List.cons.inj e1).1
      obtain rfl:c5=_:=(List.cons.inj e3).1
      obtain rfl:c6=_:=(List.cons.inj e4).1
      simp only[mC,List.cons.injEq,and_true]at e2
      obtain⟨rfl,rfl,rfl⟩:=e2
      refine⟨⟨k,b,p,m,os⟩,kMOp_K_of (x:=⟨k,b,p,m,os⟩) hl4 hC,?_⟩
      have b0:=one_le (DataW.lit (H:=H) (.int .i64 k))
      simp only[Rows.uptoBulk,Rows.uptoBulkAll,wtMop,List.map_cons,List.map_nil]at*
      omega
theorem mop_bulk {xs:List MOp}{q:Nat}(h:1+wsum wtMop xs≤q)(hB:q≤1048576):xs.length≤1048576∧∀ i,i<xs.length→mopSz (xs.getD i mop0):=by
  refine⟨?_,fun i hi=>?_⟩
  · have:=wsum_len (wt:=wtMop) (fun x=>by unfold wtMop; omega) xs
    omega
  · have h1:=wsum_mem wtMop (getD_mem mop0 hi)
    have h2:wtMop (xs.getD i mop0)≤1048576:=by omega
    unfold wtMop at h2
    obtain⟨a,b,c⟩:=op_bulk3 (xs:=(xs.getD i mop0).ops) (q:=1048576) (by omega) (Nat.le_refl _)
    exact⟨by omega,a,b,c⟩
end Go.Proofs.YtlnnjfdonilgmaaGreatDoor.Close
