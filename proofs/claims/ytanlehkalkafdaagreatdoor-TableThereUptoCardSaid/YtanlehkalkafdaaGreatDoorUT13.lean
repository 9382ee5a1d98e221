/- Contracts and plain laws,part 13. -/
import Derived.Test.YtanlehkalkafdaaGreatDoorUT12
import Derived.Deep.Slices
set_option maxHeartbeats 64000000
set_option maxRecDepth 1000000
set_option linter.all false
namespace Go.Proofs.YtanlehkalkafdaaGreatDoor
open Go.Joins Go.ChangeShapes Go.WideShapes Go.ChangeAt Go.RowKit Go.Deep
theorem bulk_pos {H:Type} (d:DataW H):1<=Rows.uptoBulk d:=by
 cases d with
 | lit l=>cases l<;> simp [Rows.uptoBulk]
 | _=>simp [Rows.uptoBulk]
theorem bulk_app {H:Type} (l r:List (DataW H)):Rows.uptoBulkAll (l ++ r)=Rows.uptoBulkAll l+Rows.uptoBulkAll r:=by
 induction l with
 | nil=>simp [Rows.uptoBulkAll]
 | cons x l ih=>simp only [nG,Rows.uptoBulkAll,ih];omega
theorem bulk_range {H:Type} (D:Nat->DataW H): ∀len,len<=Rows.uptoBulkAll ((List.range len).map D)/\ ∀i,i<len->Rows.uptoBulk (D i)<=Rows.uptoBulkAll ((List.range len).map D)
 | 0=>⟨pY _,fun i h=>by omega⟩
 | len+1=>by
  have ih:=bulk_range D len;have hp:=bulk_pos (D len);rw [List.range_succ,mV,bulk_app]
  simp only [mJ,oh,Rows.uptoBulkAll];refine ⟨by omega,fun i hi=> ?_⟩
  by_cases e:i=len
  ·subst e;omega
  have:=ih.2 i (by omega);omega
section
variable {H:Type} {enc:TypeId×Value->H} {W:World}
theorem open_lst {α:Type} {t e:TypeId} {k n M:Nat} {v:Value} {y:DataW H×List MemPlace} {R:α->List Value->Prop} {Q:α->Prop} (ht:Tryz.prog.underlying t=some (.slice e)) (hk:Tryz.prog.cellsOf e=k) (hk0:0<k)
  (h:DataW.trod enc Tryz.prog W 0 (fun _=>true) true n t [v]=some y) (hM:Rows.uptoBulk y.1<=M)
  (hel: ∀m cs d p,DataW.trod enc Tryz.prog W 0 (fun _=>true) true m e cs=some (d,p)->Rows.uptoBulk d<=M-> ∃a,R a cs/\Q a):
  ∃A c,∃l:List α,v= .slice A l.length c/\Lst W W.heap.size k R A l/\(∀a∈l,Q a)/\l.length<=M:=by
 rcases open_slice ht h with ⟨hc,hx⟩ |⟨a,len,cap,mm,m,D,Pl,hc,_,hl,hm,hmm,hx,hall⟩
 ·simp only [oM,rJ] at hc
  exact ⟨none,0, [],hc,Lst.nil,by simp,by simp⟩
 simp only [oM,rJ] at hc;simp only [rG] at hmm;subst hmm;rw [hk] at hall
 have hb:=bulk_range D len;rw [hx] at hM;simp only [Rows.uptoBulk] at hM
 have hone: ∀i:Fin len,∃a' cs',R a' cs'/\Q a'/\cs'.length=k/\ ∀j,j<k->W.cell? ((a.add (i.1*k)).add j)=cs'[j]?:=fun i=>by
  obtain ⟨cs',h1,h2⟩:=hall i.1 (by have:=i.2;omega)
  obtain ⟨_,hlen,hcell⟩:=World.cells?_some h1
  obtain ⟨a',h3,h4⟩:=hel _ _ _ _ h2 (by have:=hb.2 i.1 i.2;omega)
  exact ⟨a',cs',h3,h4,hlen,hcell⟩
 let F:Fin len->α:=fun i=>(hone i).choose
 have hF:=fun i=>(hone i).choose_spec
 refine ⟨some a,mm,List.ofFn F,by rw [vU];exact hc,fun i a' ha=> ?_,fun a' ha=> ?_,by rw [vU];omega⟩
 ·obtain ⟨hi,e1⟩:=lK.1 ha
  rw [vU] at hi;rw [List.getElem_ofFn] at e1;obtain ⟨cs',h1,h2,h3,h4⟩:=hF ⟨i,hi⟩
  obtain ⟨cs0,g1,g2,g3,g4⟩:=hF ⟨0,by omega⟩
  obtain ⟨u0,hu0⟩: ∃u,cs0[0]?=some u:=⟨_,ak (by omega)⟩
  have c0:=(g4 0 hk0).trans hu0
  have hsp:a.spot=none:=by simpa [Addr.add] using World.cell?_spot c0
  obtain ⟨b,o,sp⟩:=a;simp only at hsp;subst hsp
  refine ⟨b,o,cs',rfl,by have:=cell_lt c0;simpa [block_of_add] using this,by rw [<-e1];exact h1,h3,fun j u hu=> ?_⟩
  have hj:j<k:=by have:=(lK.1 hu).1;omega
  have:=(h4 j hj).trans hu
  rwa [add_at,add_at] at this
 obtain ⟨i,e1⟩:=List.mem_ofFn.1 ha;obtain ⟨cs',h1,h2,h3,h4⟩:=hF i;rw [<-e1];exact h2
theorem open_cells {t:TypeId} {fs:Array Field} {n:Nat} {cs:List Value} {y:DataW H×List MemPlace} (hs:Tryz.prog.underlying t=some (.struct fs)) (hone:oneCellFields Tryz.prog fs=true) (h:DataW.trod enc Tryz.prog W 0 (fun _=>true) true n t cs=some y):
  ∃(xs:List (DataW H×List MemPlace)) (m:Nat),y.1= .agg (xs.map (·.1))/\cs.length=Tryz.prog.cellsOf t/\xs.length=fs.size/\ ∀(i:Nat) (f:Field),fs[i]?=some f->DataW.trod enc Tryz.prog W 0 (fun _=>true) true m f.type ((cs.drop i).take 1)=xs[i]?:=by
 obtain ⟨xs,m,_,hx,hl,hlen,hg⟩:=DataW.trod_struct hs h
 refine ⟨xs,m,by rw [hx],hl,hlen,fun i f hf=> ?_⟩
 obtain ⟨o,k⟩:=hone_of hone i f hf;have:=hg i f hf
 rwa [o,k] at this
theorem open_valc {n:Nat} {c1 c2 c3 c4 c5:Value} {y:DataW H×List MemPlace} (h:DataW.trod enc Tryz.prog W 0 (fun _=>true) true n 51 [c1,c2,c3,c4,c5]=some y) (hk:Rows.uptoBulk y.1<=1048576):
  ∃v:Cel.V,VOk v/\ ∃An cn At ct,c1= .int .i64 v.kind/\c2= .int .i64 v.num/\c3=ST v.text/\c4= .slice An v.nums.length cn/\c5= .slice At v.texts.length ct/\Reads W W.heap.size 1 An v.nums.length (v.nums.map I64)/\Reads W W.heap.size 1 At v.texts.length (v.texts.map ST):=by
 obtain ⟨xs,m,hy,-,hlen,hg⟩:=open_cells Tryz.underlying51 (by kernel_rfl) h
 match xs,hlen with
 | [y0,y1,y2,y3,y4],_=>
  have h0:=hg 0 _ rfl;have h1:=hg 1 _ rfl;have h2:=hg 2 _ rfl;have h3:=hg 3 _ rfl
  have h4:=hg 4 _ rfl;simp only [pG,oz,pV,tV,lC,lQ] at h0 h1 h2 h3 h4
  obtain ⟨k,e0,z0,w0⟩:=DataW.trod_int Tryz.underlying3 h0
  obtain ⟨q,e1,z1,w1⟩:=DataW.trod_int Tryz.underlying2 h1
  obtain ⟨s,e2,z2,w2⟩:=DataW.trod_string Tryz.underlying9 h2
  obtain ⟨A3,d3,ns,e3,r3,i3,b3⟩:=open_nums h3;obtain ⟨A4,d4,ts,e4,r4,i4,b4⟩:=open_texts h4
  simp only [oM,rJ] at e0 e1 e2;subst e0 e1 e2 e3 e4;rw [hy] at hk
  simp only [mJ,oh,Rows.uptoBulk,Rows.uptoBulkAll,z2] at hk
  simp only [Lit.wf,mY,mD] at w0 w1
  exact ⟨⟨k,q,s.data.toList,ns,ts⟩,⟨w0,w1,i3,by show s.data.toList.length<=_;omega,by show ns.length<=_;omega,by show ts.length<=_;omega,fun t ht=>by have:=i4 t ht;omega⟩,A3,d3,A4,d4,rfl,rfl,rfl,rfl,rfl,r3,r4⟩
theorem open_propc {n:Nat} {cs:List Value} {d:DataW H} {p:List MemPlace} (h:DataW.trod enc Tryz.prog W 0 (fun _=>true) true n 53 cs=some (d,p)) (hk:Rows.uptoBulk d<=1048576): ∃q:Gr.P,PropC W W.heap.size q cs/\POk q:=by
 obtain ⟨xs,m,_,hx,hl,hlen,hg⟩:=DataW.trod_struct Tryz.underlying53 h
 rw [show Tryz.prog.cellsOf 53=6 by kernel_rfl] at hl
 match cs,hl with
 | [c0,c1,c2,c3,c4,c5],_=>
  match xs,hlen with
  | [y0,y1],_=>
   have h0:DataW.trod enc Tryz.prog W 0 (fun _=>true) true m 9 (([c0,c1,c2,c3,c4,c5].drop 0).take (Tryz.prog.cellsOf 9))=some y0:=hg 0 _ rfl
   have h1:DataW.trod enc Tryz.prog W 0 (fun _=>true) true m 51 (([c0,c1,c2,c3,c4,c5].drop 1).take (Tryz.prog.cellsOf 51))=some y1:=hg 1 _ rfl
   rw [show Tryz.prog.cellsOf 9=1 by kernel_rfl] at h0
   rw [show Tryz.prog.cellsOf 51=5 by kernel_rfl] at h1
   obtain ⟨s,e0,z0,w0⟩:=DataW.trod_string Tryz.underlying9 h0
   obtain rfl:c0= .string s:=by simpa using e0
   rw [(Prod.mk.inj hx).1] at hk;simp only [mJ,oh,Rows.uptoBulk,Rows.uptoBulkAll,z0] at hk
   obtain ⟨v,hv,An,cn,At,ct,rfl,rfl,rfl,rfl,rfl,r1,r2⟩:=open_valc (y:=y1) h1 (by omega)
   exact ⟨⟨s.data.toList,v⟩,⟨An,cn,At,ct,rfl,r1,r2⟩,⟨by show s.data.toList.length<=_;omega,hv⟩⟩
theorem open_props {n:Nat} {v:Value} {y:DataW H×List MemPlace} (h:DataW.trod enc Tryz.prog W 0 (fun _=>true) true n 46 [v]=some y) (hk:Rows.uptoBulk y.1<=1048576):
  ∃A c,∃l:List Gr.P,v= .slice A l.length c/\Lst W W.heap.size 6 (PropC W W.heap.size) A l/\(∀a∈l,POk a)/\l.length<=1048576:=
 open_lst Tryz.underlying46 (by kernel_rfl) (by decide) h hk fun _ _ _ _ h1 h2=>open_propc h1 h2
theorem open_nodec {n:Nat} {cs:List Value} {d:DataW H} {p:List MemPlace} (h:DataW.trod enc Tryz.prog W 0 (fun _=>true) true n 48 cs=some (d,p)) (hk:Rows.uptoBulk d<=1048576): ∃q:Gr.N,NodeC W W.heap.size q cs/\(NOk q/\q.labels.length<=1048576/\q.props.length<=1048576):=by
 obtain ⟨xs,m,hy,hl,hlen,hg⟩:=open_cells Tryz.underlying48 (by kernel_rfl) h
 rw [show Tryz.prog.cellsOf 48=3 by kernel_rfl] at hl
 match cs,hl with
 | [c0,c1,c2],_=>
  match xs,hlen with
  | [y0,y1,y2],_=>
   have h0:DataW.trod enc Tryz.prog W 0 (fun _=>true) true m 3 [c0]=some y0:=hg 0 _ rfl
   have h1:DataW.trod enc Tryz.prog W 0 (fun _=>true) true m 45 [c1]=some y1:=hg 1 _ rfl
   have h2:DataW.trod enc Tryz.prog W 0 (fun _=>true) true m 46 [c2]=some y2:=hg 2 _ rfl
   have hy:d= .agg [y0.1,y1.1,y2.1]:=hy;rw [hy] at hk
   simp only [Rows.uptoBulk,Rows.uptoBulkAll] at hk
   obtain ⟨k,e0,z0,w0⟩:=DataW.trod_int Tryz.underlying3 h0
   obtain rfl:c0= .int .i64 k:=by simpa using e0
   obtain ⟨A1,d1,ts,rfl,r1,i1,b1⟩:=open_texts h1
   obtain ⟨A2,d2,ps,rfl,r2,i2,b2⟩:=open_props h2 (by omega)
   simp only [Lit.wf,mY,mD] at w0
   exact ⟨⟨k,ts,ps⟩,⟨A1,d1,A2,d2,rfl,r1,r2⟩,⟨⟨w0,by show ts.length<=_;omega,fun t ht=>by have:=i1 t ht;omega,by show ps.length<=_;omega,i2⟩,by show ts.length<=_;omega,b2⟩⟩
theorem open_relc {n:Nat} {cs:List Value} {d:DataW H} {p:List MemPlace} (h:DataW.trod enc Tryz.prog W 0 (fun _=>true) true n 55 cs=some (d,p)) (hk:Rows.uptoBulk d<=1048576): ∃q:Gr.R,RelC W W.heap.size q cs/\(ROk q/\q.props.length<=1048576):=by
 obtain ⟨xs,m,hy,hl,hlen,hg⟩:=open_cells Tryz.underlying55 (by kernel_rfl) h
 rw [show Tryz.prog.cellsOf 55=5 by kernel_rfl] at hl
 match cs,hl with
 | [c0,c1,c2,c3,c4],_=>
  match xs,hlen with
  | [y0,y1,y2,y3,y4],_=>
   have h0:DataW.trod enc Tryz.prog W 0 (fun _=>true) true m 3 [c0]=some y0:=hg 0 _ rfl
   have h1:DataW.trod enc Tryz.prog W 0 (fun _=>true) true m 9 [c1]=some y1:=hg 1 _ rfl
   have h2:DataW.trod enc Tryz.prog W 0 (fun _=>true) true m 3 [c2]=some y2:=hg 2 _ rfl
   have h3:DataW.trod enc Tryz.prog W 0 (fun _=>true) true m 3 [c3]=some y3:=hg 3 _ rfl
   have h4:DataW.trod enc Tryz.prog W 0 (fun _=>true) true m 46 [c4]=some y4:=hg 4 _ rfl
   have hy:d= .agg [y0.1,y1.1,y2.1,y3.1,y4.1]:=hy;rw [hy] at hk
   obtain ⟨k,e0,z0,w0⟩:=DataW.trod_int Tryz.underlying3 h0
   obtain ⟨s,e1,z1,w1⟩:=DataW.trod_string Tryz.underlying9 h1
   obtain ⟨k2,e2,z2,w2⟩:=DataW.trod_int Tryz.underlying3 h2
   obtain ⟨k3,e3,z3,w3⟩:=DataW.trod_int Tryz.underlying3 h3
   simp only [mJ,oh,Rows.uptoBulk,Rows.uptoBulkAll,z1] at hk
   obtain rfl:c0= .int .i64 k:=by simpa using e0
   obtain rfl:c1= .string s:=by simpa using e1
   obtain rfl:c2= .int .i64 k2:=by simpa using e2
   obtain rfl:c3= .int .i64 k3:=by simpa using e3
   obtain ⟨A2,d2,ps,rfl,r2,i2,b2⟩:=open_props h4 (by omega)
   simp only [Lit.wf,mY,mD] at w0 w2 w3
   exact ⟨⟨k,s.data.toList,k2,k3,ps⟩,⟨A2,d2,rfl,r2⟩,⟨⟨w0,by show s.data.toList.length<=_;omega,w2,w3,by show ps.length<=_;omega,i2⟩,b2⟩⟩
theorem open_graphS {r:Reach} {b0:Nat} {v:Value} {d:DataW H} {p:List MemPlace} (hv:Value.okWide Tryz.prog W r b0 25 v) (h:DataW.Trod enc Tryz.prog W 0 (fun _=>true) true 25 v d p) (hk:Rows.uptoBulk d<=1048576):
  ∃g,GIn W W.heap.size v g/\(g.nodes.length<=1048576/\g.rels.length<=1048576/\(∀n∈g.nodes,n.labels.length<=1048576/\n.props.length<=1048576)/\ ∀r∈g.rels,r.props.length<=1048576):=by
 obtain ⟨cs,rfl,hsz⟩:=okWide_struct Tryz.underlying25 hv
 rw [show Tryz.prog.cellsOf 25=2 by kernel_rfl] at hsz
 obtain ⟨l⟩:=cs
 match l,hsz with
 | [c0,c1],_=>
  obtain ⟨fuel,hf⟩:=h
  obtain ⟨xs,m,hy,-,hlen,hg⟩:=open_cells Tryz.underlying25 (by kernel_rfl) hf
  match xs,hlen with
  | [y0,y1],_=>
   have h0:DataW.trod enc Tryz.prog W 0 (fun _=>true) true m 22 [c0]=some y0:=hg 0 _ rfl
   have h1:DataW.trod enc Tryz.prog W 0 (fun _=>true) true m 23 [c1]=some y1:=hg 1 _ rfl
   have hy:d= .agg [y0.1,y1.1]:=hy;rw [hy] at hk
   simp only [Rows.uptoBulk,Rows.uptoBulkAll] at hk
   obtain ⟨A1,d1,ns,rfl,r1,i1,b1⟩:=open_lst (k:=3) (M:=1048576) (R:=NodeC W W.heap.size) (Q:=fun q=>NOk q/\q.labels.length<=1048576/\q.props.length<=1048576) Tryz.underlying22 (by kernel_rfl) (by decide) h0 (by omega) fun _ _ _ _ h1 h2=>open_nodec h1 h2
   obtain ⟨A2,d2,rs,rfl,r2,i2,b2⟩:=open_lst (k:=5) (M:=1048576) (R:=RelC W W.heap.size) (Q:=fun q=>ROk q/\q.props.length<=1048576) Tryz.underlying23 (by kernel_rfl) (by decide) h1 (by omega) fun _ _ _ _ h1 h2=>open_relc h1 h2
   exact ⟨⟨ns,rs⟩,⟨⟨A1,d1,A2,d2,rfl,r1,r2⟩,⟨by show ns.length<=_;omega,fun n hn=>(i1 n hn).1,by show rs.length<=_;omega,fun n hn=>(i2 n hn).1⟩⟩,b1,b2,fun n hn=>(i1 n hn).2,fun n hn=>(i2 n hn).2⟩
theorem open_graph {r:Reach} {b0:Nat} {v:Value} {d:DataW H} {p:List MemPlace} (hv:Value.okWide Tryz.prog W r b0 25 v) (h:DataW.Trod enc Tryz.prog W 0 (fun _=>true) true 25 v d p) (hk:Rows.uptoBulk d<=1048576):
  ∃g,GIn W W.heap.size v g:=by
 obtain ⟨g,hg,-⟩:=open_graphS hv h hk;exact ⟨g,hg⟩
end
end Go.Proofs.YtanlehkalkafdaaGreatDoor
