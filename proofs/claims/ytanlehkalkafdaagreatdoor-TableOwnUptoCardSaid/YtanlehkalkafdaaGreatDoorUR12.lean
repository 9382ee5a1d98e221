/- Contracts and plain laws,part 12. -/
import Derived.Test.YtanlehkalkafdaaGreatDoorUR11
import Derived.Deep.Slices
set_option maxHeartbeats 64000000
set_option maxRecDepth 1000000
set_option linter.all false
namespace Go.Proofs.YtanlehkalkafdaaGreatDoor
open Go.Joins Go.ChangeShapes Go.WideShapes Go.ChangeAt Go.RowKit Go.Deep
theorem bulk_pos {H:Type} (d:DataW H):1<=Rows.uptoBulk d:=by
 cases d with
 |lit l=>cases l<;>simp[Rows.uptoBulk]
 |_=>simp[Rows.uptoBulk]
theorem bulk_app {H:Type} (l r:List (DataW H)):Rows.uptoBulkAll (l++r)=Rows.uptoBulkAll l+Rows.uptoBulkAll r:=by
 induction l with
 |nil=>simp[Rows.uptoBulkAll]
 |cons x l ih=>simp only[uG,Rows.uptoBulkAll,ih];omega
theorem bulk_range {H:Type} (D:Nat->DataW H): ∀len,len<=Rows.uptoBulkAll ((List.range len).map D)/\ ∀i,i<len->Rows.uptoBulk (D i)<=Rows.uptoBulkAll ((List.range len).map D)
 |0=>⟨wG _,fun i h=>by omega⟩
 |len+1=>by
  have ih:=bulk_range D len;have hp:=bulk_pos (D len);rw[List.range_succ,uf,bulk_app]
  simp only[tV,uT,Rows.uptoBulkAll];refine⟨by omega,fun i hi=> ?_⟩
  by_cases e:i=len
  ·subst e;omega
  have:=ih.2 i (by omega);omega
section
variable {H:Type} {enc:TypeId×Value->H} {W:World}
theorem open_lst {α:Type} {t e:TypeId} {k n M:Nat} {v:Value} {y:DataW H×List MemPlace} {R:α->List Value->Prop} {Q:α->Prop} (ht:Tryz.prog.underlying t=some (.slice e)) (hk:Tryz.prog.cellsOf e=k) (hk0:0<k)
  (h:DataW.trod enc Tryz.prog W 0 (fun _=>true) true n t [v]=some y) (hM:Rows.uptoBulk y.1<=M)
  (hel: ∀m cs d p,DataW.trod enc Tryz.prog W 0 (fun _=>true) true m e cs=some (d,p)->Rows.uptoBulk d<=M-> ∃a,R a cs/\Q a):
  ∃A c,∃l:List α,v=.slice A l.length c/\Lst W W.heap.size k R A l/\(∀a∈l,Q a)/\l.length<=M:=by
 rcases open_slice ht h with⟨hc,hx⟩|⟨a,len,cap,mm,m,D,Pl,hc,_,hl,hm,hmm,hx,hall⟩
 ·simp only[wI,yJ]at hc
  exact⟨none,0,[],hc,Lst.nil,by simp,by simp⟩
 simp only[wI,yJ]at hc;simp only[yO]at hmm;subst hmm;rw[hk]at hall
 have hb:=bulk_range D len;rw[hx]at hM;simp only[Rows.uptoBulk]at hM
 have hone: ∀i:Fin len,∃a' cs',R a' cs'/\Q a'/\cs'.length=k/\ ∀j,j<k->W.cell? ((a.add (i.1*k)).add j)=cs'[j]?:=fun i=>by
  obtain⟨cs',h1,h2⟩:=hall i.1 (by have:=i.2;omega)
  obtain⟨_,hlen,hcell⟩:=World.cells?_some h1
  obtain⟨a',h3,h4⟩:=hel _ _ _ _ h2 (by have:=hb.2 i.1 i.2;omega)
  exact⟨a',cs',h3,h4,hlen,hcell⟩
 let F:Fin len->α:=fun i=>(hone i).choose
 have hF:=fun i=>(hone i).choose_spec
 refine⟨some a,mm,List.ofFn F,by rw[Ce];exact hc,fun i a' ha=> ?_,fun a' ha=> ?_,by rw[Ce];omega⟩
 ·obtain⟨hi,e1⟩:=rZ.1 ha
  rw[Ce]at hi;rw[List.getElem_ofFn]at e1;obtain⟨cs',h1,h2,h3,h4⟩:=hF ⟨i,hi⟩
  obtain⟨cs0,g1,g2,g3,g4⟩:=hF ⟨0,by omega⟩
  obtain⟨u0,hu0⟩: ∃u,cs0[0]?=some u:=⟨_,ay (by omega)⟩
  have c0:=(g4 0 hk0).trans hu0
  have hsp:a.spot=none:=by simpa[Addr.add] using World.cell?_spot c0
  obtain⟨b,o,sp⟩:=a;simp only at hsp;subst hsp
  refine⟨b,o,cs',rfl,by have:=cell_lt c0;simpa[block_of_add] using this,by rw[<-e1];exact h1,h3,fun j u hu=> ?_⟩
  have hj:j<k:=by have:=(rZ.1 hu).1;omega
  have:=(h4 j hj).trans hu
  rwa [add_at,add_at]at this
 obtain⟨i,e1⟩:=List.mem_ofFn.1 ha;obtain⟨cs',h1,h2,h3,h4⟩:=hF i;rw[<-e1];exact h2
theorem open_cells {t:TypeId} {fs:Array Field} {n:Nat} {cs:List Value} {y:DataW H×List MemPlace} (hs:Tryz.prog.underlying t=some (.struct fs)) (hone:oneCellFields Tryz.prog fs=true) (h:DataW.trod enc Tryz.prog W 0 (fun _=>true) true n t cs=some y):
  ∃(xs:List (DataW H×List MemPlace)) (m:Nat),y.1=.agg (xs.map (·.1))/\cs.length=Tryz.prog.cellsOf t/\xs.length=fs.size/\ ∀(i:Nat) (f:Field),fs[i]?=some f->DataW.trod enc Tryz.prog W 0 (fun _=>true) true m f.type ((cs.drop i).take 1)=xs[i]?:=by
 obtain⟨xs,m,_,hx,hl,hlen,hg⟩:=DataW.trod_struct hs h
 refine⟨xs,m,by rw[hx],hl,hlen,fun i f hf=> ?_⟩
 obtain⟨o,k⟩:=hone_of hone i f hf;have:=hg i f hf
 rwa [o,k]at this
theorem open_valc {n:Nat} {c1 c2 c3 c4 c5:Value} {y:DataW H×List MemPlace} (h:DataW.trod enc Tryz.prog W 0 (fun _=>true) true n 51 [c1,c2,c3,c4,c5]=some y) (hk:Rows.uptoBulk y.1<=1048576):
  ∃v:Cel.V,VOk v/\ ∃An cn At ct,c1=.int .i64 v.kind/\c2=.int .i64 v.num/\c3=ST v.text/\c4=.slice An v.nums.length cn/\c5=.slice At v.texts.length ct/\Reads W W.heap.size 1 An v.nums.length (v.nums.map I64)/\Reads W W.heap.size 1 At v.texts.length (v.texts.map ST):=by
 obtain⟨xs,m,hy,-,hlen,hg⟩:=open_cells Tryz.underlying51 (by kernel_rfl) h
 match xs,hlen with
 |[y0,y1,y2,y3,y4],_=>
  have h0:=hg 0 _ rfl;have h1:=hg 1 _ rfl;have h2:=hg 2 _ rfl;have h3:=hg 3 _ rfl
  have h4:=hg 4 _ rfl;simp only[vX,vF,wQ,yx,sD,sN]at h0 h1 h2 h3 h4
  obtain⟨k,e0,z0,w0⟩:=DataW.trod_int Tryz.underlying3 h0
  obtain⟨q,e1,z1,w1⟩:=DataW.trod_int Tryz.underlying2 h1
  obtain⟨s,e2,z2,w2⟩:=DataW.trod_string Tryz.underlying9 h2
  obtain⟨A3,d3,ns,e3,r3,i3,b3⟩:=open_nums h3;obtain⟨A4,d4,ts,e4,r4,i4,b4⟩:=open_texts h4
  simp only[wI,yJ]at e0 e1 e2;subst e0 e1 e2 e3 e4;rw[hy]at hk
  simp only[tV,uT,Rows.uptoBulk,Rows.uptoBulkAll,z2]at hk
  simp only[Lit.wf,uy,tX]at w0 w1
  exact⟨⟨k,q,s.data.toList,ns,ts⟩,⟨w0,w1,i3,by show s.data.toList.length<=_;omega,by show ns.length<=_;omega,by show ts.length<=_;omega,fun t ht=>by have:=i4 t ht;omega⟩,A3,d3,A4,d4,rfl,rfl,rfl,rfl,rfl,r3,r4⟩
theorem open_propc {n:Nat} {cs:List Value} {d:DataW H} {p:List MemPlace} (h:DataW.trod enc Tryz.prog W 0 (fun _=>true) true n 53 cs=some (d,p)) (hk:Rows.uptoBulk d<=1048576): ∃q:Gr.P,PropC W W.heap.size q cs/\POk q:=by
 obtain⟨xs,m,_,hx,hl,hlen,hg⟩:=DataW.trod_struct Tryz.underlying53 h
 rw[show Tryz.prog.cellsOf 53=6 by kernel_rfl]at hl
 match cs,hl with
 |[c0,c1,c2,c3,c4,c5],_=>
  match xs,hlen with
  |[y0,y1],_=>
   have h0:DataW.trod enc Tryz.prog W 0 (fun _=>true) true m 9 (([c0,c1,c2,c3,c4,c5].drop 0).take (Tryz.prog.cellsOf 9))=some y0:=hg 0 _ rfl
   have h1:DataW.trod enc Tryz.prog W 0 (fun _=>true) true m 51 (([c0,c1,c2,c3,c4,c5].drop 1).take (Tryz.prog.cellsOf 51))=some y1:=hg 1 _ rfl
   rw[show Tryz.prog.cellsOf 9=1 by kernel_rfl]at h0
   rw[show Tryz.prog.cellsOf 51=5 by kernel_rfl]at h1
   obtain⟨s,e0,z0,w0⟩:=DataW.trod_string Tryz.underlying9 h0
   obtain rfl:c0=.string s:=by simpa using e0
   rw[(Prod.mk.inj hx).1]at hk;simp only[tV,uT,Rows.uptoBulk,Rows.uptoBulkAll,z0]at hk
   obtain⟨v,hv,An,cn,At,ct,rfl,rfl,rfl,rfl,rfl,r1,r2⟩:=open_valc (y:=y1) h1 (by omega)
   exact⟨⟨s.data.toList,v⟩,⟨An,cn,At,ct,rfl,r1,r2⟩,⟨by show s.data.toList.length<=_;omega,hv⟩⟩
theorem open_props {n:Nat} {v:Value} {y:DataW H×List MemPlace} (h:DataW.trod enc Tryz.prog W 0 (fun _=>true) true n 46 [v]=some y) (hk:Rows.uptoBulk y.1<=1048576):
  ∃A c,∃l:List Gr.P,v=.slice A l.length c/\Lst W W.heap.size 6 (PropC W W.heap.size) A l/\(∀a∈l,POk a)/\l.length<=1048576:=
 open_lst Tryz.underlying46 (by kernel_rfl) (by decide) h hk fun _ _ _ _ h1 h2=>open_propc h1 h2
theorem open_nodec {n:Nat} {cs:List Value} {d:DataW H} {p:List MemPlace} (h:DataW.trod enc Tryz.prog W 0 (fun _=>true) true n 48 cs=some (d,p)) (hk:Rows.uptoBulk d<=1048576): ∃q:Gr.N,NodeC W W.heap.size q cs/\(NOk q/\q.labels.length<=1048576/\q.props.length<=1048576):=by
 obtain⟨xs,m,hy,hl,hlen,hg⟩:=open_cells Tryz.underlying48 (by kernel_rfl) h
 rw[show Tryz.prog.cellsOf 48=3 by kernel_rfl]at hl
 match cs,hl with
 |[c0,c1,c2],_=>
  match xs,hlen with
  |[y0,y1,y2],_=>
   have h0:DataW.trod enc Tryz.prog W 0 (fun _=>true) true m 3 [c0]=some y0:=hg 0 _ rfl
   have h1:DataW.trod enc Tryz.prog W 0 (fun _=>true) true m 45 [c1]=some y1:=hg 1 _ rfl
   have h2:DataW.trod enc Tryz.prog W 0 (fun _=>true) true m 46 [c2]=some y2:=hg 2 _ rfl
   have hy:d=.agg [y0.1,y1.1,y2.1]:=hy;rw[hy]at hk
   simp only[Rows.uptoBulk,Rows.uptoBulkAll]at hk
   obtain⟨k,e0,z0,w0⟩:=DataW.trod_int Tryz.underlying3 h0
   obtain rfl:c0=.int .i64 k:=by simpa using e0
   obtain⟨A1,d1,ts,rfl,r1,i1,b1⟩:=open_texts h1
   obtain⟨A2,d2,ps,rfl,r2,i2,b2⟩:=open_props h2 (by omega)
   simp only[Lit.wf,uy,tX]at w0
   exact⟨⟨k,ts,ps⟩,⟨A1,d1,A2,d2,rfl,r1,r2⟩,⟨⟨w0,by show ts.length<=_;omega,fun t ht=>by have:=i1 t ht;omega,by show ps.length<=_;omega,i2⟩,by show ts.length<=_;omega,b2⟩⟩
theorem open_relc {n:Nat} {cs:List Value} {d:DataW H} {p:List MemPlace} (h:DataW.trod enc Tryz.prog W 0 (fun _=>true) true n 55 cs=some (d,p)) (hk:Rows.uptoBulk d<=1048576): ∃q:Gr.R,RelC W W.heap.size q cs/\(ROk q/\q.props.length<=1048576):=by
 obtain⟨xs,m,hy,hl,hlen,hg⟩:=open_cells Tryz.underlying55 (by kernel_rfl) h
 rw[show Tryz.prog.cellsOf 55=5 by kernel_rfl]at hl
 match cs,hl with
 |[c0,c1,c2,c3,c4],_=>
  match xs,hlen with
  |[y0,y1,y2,y3,y4],_=>
   have h0:DataW.trod enc Tryz.prog W 0 (fun _=>true) true m 3 [c0]=some y0:=hg 0 _ rfl
   have h1:DataW.trod enc Tryz.prog W 0 (fun _=>true) true m 9 [c1]=some y1:=hg 1 _ rfl
   have h2:DataW.trod enc Tryz.prog W 0 (fun _=>true) true m 3 [c2]=some y2:=hg 2 _ rfl
   have h3:DataW.trod enc Tryz.prog W 0 (fun _=>true) true m 3 [c3]=some y3:=hg 3 _ rfl
   have h4:DataW.trod enc Tryz.prog W 0 (fun _=>true) true m 46 [c4]=some y4:=hg 4 _ rfl
   have hy:d=.agg [y0.1,y1.1,y2.1,y3.1,y4.1]:=hy;rw[hy]at hk
   obtain⟨k,e0,z0,w0⟩:=DataW.trod_int Tryz.underlying3 h0
   obtain⟨s,e1,z1,w1⟩:=DataW.trod_string Tryz.underlying9 h1
   obtain⟨k2,e2,z2,w2⟩:=DataW.trod_int Tryz.underlying3 h2
   obtain⟨k3,e3,z3,w3⟩:=DataW.trod_int Tryz.underlying3 h3
   simp only[tV,uT,Rows.uptoBulk,Rows.uptoBulkAll,z1]at hk
   obtain rfl:c0=.int .i64 k:=by simpa using e0
   obtain rfl:c1=.string s:=by simpa using e1
   obtain rfl:c2=.int .i64 k2:=by simpa using e2
   obtain rfl:c3=.int .i64 k3:=by simpa using e3
   obtain⟨A2,d2,ps,rfl,r2,i2,b2⟩:=open_props h4 (by omega)
   simp only[Lit.wf,uy,tX]at w0 w2 w3
   exact⟨⟨k,s.data.toList,k2,k3,ps⟩,⟨A2,d2,rfl,r2⟩,⟨⟨w0,by show s.data.toList.length<=_;omega,w2,w3,by show ps.length<=_;omega,i2⟩,b2⟩⟩
theorem open_graphS {r:Reach} {b0:Nat} {v:Value} {d:DataW H} {p:List MemPlace} (hv:Value.okWide Tryz.prog W r b0 25 v) (h:DataW.Trod enc Tryz.prog W 0 (fun _=>true) true 25 v d p) (hk:Rows.uptoBulk d<=1048576):
  ∃g,GIn W W.heap.size v g/\(g.nodes.length<=1048576/\g.rels.length<=1048576/\(∀n∈g.nodes,n.labels.length<=1048576/\n.props.length<=1048576)/\ ∀r∈g.rels,r.props.length<=1048576):=by
 obtain⟨cs,rfl,hsz⟩:=okWide_struct Tryz.underlying25 hv
 rw[show Tryz.prog.cellsOf 25=2 by kernel_rfl]at hsz
 obtain⟨l⟩:=cs
 match l,hsz with
 |[c0,c1],_=>
  obtain⟨fuel,hf⟩:=h
  obtain⟨xs,m,hy,-,hlen,hg⟩:=open_cells Tryz.underlying25 (by kernel_rfl) hf
  match xs,hlen with
  |[y0,y1],_=>
   have h0:DataW.trod enc Tryz.prog W 0 (fun _=>true) true m 22 [c0]=some y0:=hg 0 _ rfl
   have h1:DataW.trod enc Tryz.prog W 0 (fun _=>true) true m 23 [c1]=some y1:=hg 1 _ rfl
   have hy:d=.agg [y0.1,y1.1]:=hy;rw[hy]at hk
   simp only[Rows.uptoBulk,Rows.uptoBulkAll]at hk
   obtain⟨A1,d1,ns,rfl,r1,i1,b1⟩:=open_lst (k:=3) (M:=1048576) (R:=NodeC W W.heap.size) (Q:=fun q=>NOk q/\q.labels.length<=1048576/\q.props.length<=1048576) Tryz.underlying22 (by kernel_rfl) (by decide) h0 (by omega) fun _ _ _ _ h1 h2=>open_nodec h1 h2
   obtain⟨A2,d2,rs,rfl,r2,i2,b2⟩:=open_lst (k:=5) (M:=1048576) (R:=RelC W W.heap.size) (Q:=fun q=>ROk q/\q.props.length<=1048576) Tryz.underlying23 (by kernel_rfl) (by decide) h1 (by omega) fun _ _ _ _ h1 h2=>open_relc h1 h2
   exact⟨⟨ns,rs⟩,⟨⟨A1,d1,A2,d2,rfl,r1,r2⟩,⟨by show ns.length<=_;omega,fun n hn=>(i1 n hn).1,by show rs.length<=_;omega,fun n hn=>(i2 n hn).1⟩⟩,b1,b2,fun n hn=>(i1 n hn).2,fun n hn=>(i2 n hn).2⟩
theorem open_graph {r:Reach} {b0:Nat} {v:Value} {d:DataW H} {p:List MemPlace} (hv:Value.okWide Tryz.prog W r b0 25 v) (h:DataW.Trod enc Tryz.prog W 0 (fun _=>true) true 25 v d p) (hk:Rows.uptoBulk d<=1048576):
  ∃g,GIn W W.heap.size v g:=by
 obtain⟨g,hg,-⟩:=open_graphS hv h hk;exact⟨g,hg⟩
end
end Go.Proofs.YtanlehkalkafdaaGreatDoor
namespace Go.Proofs.YtanlehkalkafdaaGreatDoor.Csv
abbrev F:=List UInt8
def special (c:UInt8):Bool:=c == 34 || c == 44 || c == 13 || c == 10
def esc (f:F):F:=f.flatMap fun c=>if c=34 then[34,34] else[c]
def printF (f:F):F:=if f.any special then 34 :: esc f++[34] else f
def fieldsK:Nat->List F->F
 |_,[]=> []
 |k,f :: r=>(if 0<k then[44] else[])++printF f++fieldsK (k+1) r
def printRow (r:List F):F:=fieldsK 0 r++[13,10]
def print:List (List F)->Option F
 |[]=>some []
 |r :: rs=>if r=[] then none else(print rs).map (printRow r ++ ·)
theorem esc_plain (f:F) (h:f.any special=false):esc f=f:=by
 induction f with
 |nil=>rfl
 |cons c f ih=>
  simp only[CP,Bool.or_eq_false_iff]at h
  have hc:c≠34:=by intro e;subst e;simp[special]at h
  simp only[esc,uK,rU hc]at ih⊢;rw[ih h.2];rfl
theorem print_some {rs:List (List F)} (h: []∉rs):print rs=some (rs.flatMap printRow):=by
 induction rs with
 |nil=>rfl
 |cons r rs ih=>
  unfold print;rw[rU (fun e=>h (by simp[e])),ih (fun e=>h (by simp[e]))]
  simp
def wRow (r:List F):Nat:=(r.map fun f=>2*f.length+3).sum+2
def wRows (rs:List (List F)):Nat:=(rs.map wRow).sum
theorem esc_length (f:F):(esc f).length<=2*f.length:=by
 induction f with
 |nil=>simp[esc]
 |cons c f ih=>
  have e:esc (c :: f)=(if c=34 then[34,34] else[c])++esc f:=rfl
  rw[e,rP,sS]
  split<;>simp<;>omega
theorem printF_length (f:F):(printF f).length<=2*f.length+2:=by
 unfold printF;have:=esc_length f
 split
 ·simp;omega
 omega
theorem fieldsK_length (r:List F): ∀k,(fieldsK k r).length+2<=wRow r:=by
 induction r with
 |nil=>intro k;simp[fieldsK,wRow]
 |cons f r ih=>
  intro k;have h1:=ih (k+1);have h2:=printF_length f
  have e:fieldsK k (f :: r)=(if 0<k then[44] else[])++printF f++fieldsK (k+1) r:=rfl
  rw[e,rP,rP];have h3:(if 0<k then[44] else([]:F)).length<=1:=by split<;>simp
  simp only[wRow,tV,vO]at h1⊢;omega
def plainP (l:F):Option (F×F):=
 match l.dropWhile (!special ·) with
 |34 :: _=>none
 |r=>some (l.takeWhile (!special ·),r)
def quotedA:F->F->Option (F×F)
 |_,[]=>none
 |acc,c :: r=>
  if c=34 then
   match r with
   |[]=>some (acc,[])
   |d :: r'=>if d=34 then quotedA (acc++[34]) r' else if d=44\/d=13\/d=10 then some (acc,d :: r') else none
  else quotedA (acc++[c]) r
def fieldP:F->Option (F×F)
 |34 :: r=>quotedA [] r
 |l=>plainP l
def rowA:Nat->List F->F->Nat×List F×F
 |0,_,_=>(0,[],[])
 |n+1,acc,l=>
  match fieldP l with
  |none=>(210,[],[])
  |some (f,[])=>(0,acc++[f],[])
  |some (f,c :: r)=>if c=44 then rowA n (acc++[f]) r else if c=13/\r.head?=some 10 then(0,acc++[f],r.tail) else(211,[],[])
def rowB (n:Nat) (acc:List F) (f:F):F->Nat×List F×F
 |[]=>(0,acc++[f],[])
 |c :: r=>if c=44 then rowA n (acc++[f]) r else if c=13/\r.head?=some 10 then(0,acc++[f],r.tail) else(211,[],[])
theorem rowB_cons (n:Nat) (acc:List F) (f:F) (c:UInt8) (r:F):rowB n acc f (c :: r)=if c=44 then rowA n (acc++[f]) r else if c=13/\r.head?=some 10 then(0,acc++[f],r.tail) else(211,[],[]):=rfl
theorem rowA_none {n:Nat} {acc:List F} {l:F} (h:fieldP l=none):rowA (n+1) acc l=(210,[],[]):=by
 unfold rowA;rw[h]
theorem rowA_some {n:Nat} {acc:List F} {l f r:F} (h:fieldP l=some (f,r)):rowA (n+1) acc l=rowB n acc f r:=by
 unfold rowA;rw[h];cases r<;>rfl
def rowsA:Nat->List (List F)->F->List (List F)×Nat
 |0,acc,_=>(acc,0)
 |n+1,acc,l=>
  if l=[] then(acc,0)
  else match rowA (l.length+1) [] l with
   |(0,fs,r)=>rowsA n (acc++[fs]) r
   |(e+1,_,_)=>(acc,e+1)
def rowsOf (l:F):List (List F)×Nat:=rowsA (l.length+1) [] l
theorem rowsA_prefix (n:Nat): ∀(acc:List (List F)) (l:F),acc <+:(rowsA n acc l).1:=by
 induction n with
 |zero=>intro acc l;exact Ci _
 |succ n ih=>
  intro acc l;unfold rowsA
  split
  ·exact Ci _
  split
  ·exact(List.prefix_append acc _).trans (ih _ _)
  exact Ci _
theorem rowsA_some {n:Nat} {acc:List (List F)} {l r:F} {fs:List F} (hl:l≠ []) (h:rowA (l.length+1) [] l=(0,fs,r)):rowsA (n+1) acc l=rowsA n (acc++[fs]) r:=by
 rw[rowsA,rU hl,h]
theorem rowsA_err {n k:Nat} {acc:List (List F)} {l r:F} {fs:List F} (hl:l≠ []) (h:rowA (l.length+1) [] l=(k+1,fs,r)):rowsA (n+1) acc l=(acc,k+1):=by
 rw[rowsA,rU hl,h]
theorem take_of_prefix {α:Type} {a b:List α} (h:a <+: b):b.take a.length=a:=by
 obtain⟨c,rfl⟩:=h;simp
theorem get_of_prefix {α:Type} {a b:List α} {x:α} (h:a++[x] <+: b):b[a.length]?=some x:=by
 obtain⟨c,rfl⟩:=h;simp
theorem quotedA_cons (acc:F) (c:UInt8) (r:F):quotedA acc (c :: r)=
  if c=34 then
   match r with
   |[]=>some (acc,[])
   |d :: r'=>if d=34 then quotedA (acc++[34]) r' else if d=44\/d=13\/d=10 then some (acc,d :: r') else none
  else quotedA (acc++[c]) r:=by
 rw[quotedA.eq_def];cases r<;>rfl
theorem fieldP_other {l:F} (h: ∀r,l≠34 :: r):fieldP l=plainP l:=by
 unfold fieldP
 split
 ·exact absurd rfl (h _)
 rfl
theorem quotedA_chunk (a:F) (h: ∀x∈a,x≠34) (acc l:F):quotedA acc (a++l)=quotedA (acc++a) l:=by
 induction a generalizing acc with
 |nil=>simp
 |cons c a ih=>
  rw[uG,quotedA_cons,rU (h c (by simp)),ih (fun x hx=>h x (by simp[hx]))]
  simp
theorem quotedA_none (l:F) (h: ∀x∈l,x≠34) (acc:F):quotedA acc l=none:=by
 induction l generalizing acc with
 |nil=>rfl
 |cons c a ih=>
  rw[quotedA_cons,rU (h c (by simp)),ih (fun x hx=>h x (by simp[hx]))]
theorem quotedA_rest {l acc f r:F} (h:quotedA acc l=some (f,r)):r.length<l.length/\(r=[]\/ ∃d r',r=d :: r'/\(d=44\/d=13\/d=10)):=by
 have key: ∀n (l acc:F),l.length<=n->quotedA acc l=some (f,r)->r.length<l.length/\(r=[]\/ ∃d r',r=d :: r'/\(d=44\/d=13\/d=10)):=by
  intro n
  induction n with
  |zero=>intro l acc hl h;cases l with|nil=>cases h|cons c l=>simp at hl
  |succ n ih=>
   intro l acc hl h;cases l with
   |nil=>cases h
   |cons c l=>
    rw[quotedA_cons]at h
    split at h
    ·split at h
     ·cases h;exact⟨by simp,.inl rfl⟩
     rename_i d r'
     split at h
     ·have:=ih r' _ (by simp at hl;omega) h
      exact⟨by have:=this.1;simp;omega,this.2⟩
     split at h
     ·cases h
      exact⟨by simp,.inr ⟨_,_,rfl,by assumption⟩⟩
     cases h
    have:=ih l _ (by simp at hl;omega) h
    exact⟨by have:=this.1;simp;omega,this.2⟩
 exact key _ l acc (rM _) h
theorem dropWhile_head {p:UInt8->Bool} {l:F} {c:UInt8} {r:F} (h:l.dropWhile p=c :: r):p c=false:=by
 induction l with
 |nil=>cases h
 |cons a l ih=>
  rw[xU]at h
  split at h
  ·exact ih h
  rename_i ha;cases h
  simpa using ha
theorem dropWhile_le (p:UInt8->Bool) (l:F):(l.dropWhile p).length<=l.length:=by
 induction l with
 |nil=>simp
 |cons a l ih=>
  rw[xU]
  split
  ·simp;omega
  simp
theorem plainP_rest {l f r:F} (h:plainP l=some (f,r)):r.length<=l.length/\(r=[]\/ ∃d r',r=d :: r'/\(d=44\/d=13\/d=10)):=by
 unfold plainP at h
 split at h
 ·cases h
 rename_i hne;simp only[uH,uZ]at h;obtain⟨rfl,rfl⟩:=h;refine⟨dropWhile_le _ _, ?_⟩
 cases hd:l.dropWhile (!special ·) with
 |nil=>exact .inl rfl
 |cons d r'=>
  refine .inr ⟨d,r',rfl, ?_⟩;have h1:=dropWhile_head hd
  have h2:d≠34:=fun e=>hne r' (by rw[hd,e])
  simp only[special,BI,wu,uw]at h1
  rcases h1 with((h1|h1)|h1)|h1
  ·exact absurd h1 h2
  ·exact .inl h1
  ·exact .inr (.inl h1)
  exact .inr (.inr h1)
theorem fieldP_rest {l f r:F} (h:fieldP l=some (f,r)):r.length<=l.length/\(r=[]\/ ∃d r',r=d :: r'/\(d=44\/d=13\/d=10)):=by
 unfold fieldP at h
 split at h
 ·have:=quotedA_rest h
  exact⟨by simp;omega,this.2⟩
 exact plainP_rest h
structure St where
 st:Nat
 rows:List (List F)
 row:List F
 field:F
def step (s:St) (c:UInt8):St ⊕ Nat:=
 if s.st=4 then(if c=10 then .inl ⟨0,s.rows++[s.row],[],[]⟩ else .inr 211)
 else if s.st=2 then(if c=34 then .inl ⟨3,s.rows,s.row,s.field⟩ else .inl ⟨2,s.rows,s.row,s.field++[c]⟩)
 else if c=34 then(if s.st=1 then .inr 210 else .inl ⟨2,s.rows,s.row,if s.st=3 then s.field++[c] else s.field⟩)
 else if c=44\/c=13 then .inl ⟨if c=13 then 4 else 0,s.rows,s.row++[s.field],[]⟩
 else if c=10 then .inr 211
 else if s.st=3 then .inr 210 else .inl ⟨1,s.rows,s.row,s.field++[c]⟩
def fin (s:St):List (List F)×Nat:=
 if s.st=2 then(s.rows,210)
 else if s.st=4 then(s.rows,211)
 else if 0<s.row.length\/0<s.field.length\/s.st≠0 then(s.rows++[s.row++[s.field]],0)
 else(s.rows,0)
def read:St->F->List (List F)×Nat
 |s,[]=>fin s
 |s,c :: l=>
  match step s c with
  |.inl s'=>read s' l
  |.inr e=>(s.rows,e)
theorem step_plain {s:St} {c:UInt8} (h:s.st=0\/s.st=1) (hc:special c=false):step s c=.inl ⟨1,s.rows,s.row,s.field++[c]⟩:=by
 simp only[special,Bool.or_eq_false_iff,rX]at hc;obtain⟨⟨⟨h1,h2⟩,h3⟩,h4⟩:=hc
 unfold step
 rw[rU (by omega),rU (by omega),rU h1,rU (by simp[h2,h3]),rU h4,rU (by omega)]
theorem read_plain (l:F): ∀s:St,(s.st=0\/s.st=1)-> ∃st',(st'=0\/st'=1)/\(st'=0->s.st=0/\l.takeWhile (!special ·)=[])/\
  read s l=read ⟨st',s.rows,s.row,s.field++l.takeWhile (!special ·)⟩ (l.dropWhile (!special ·)):=by
 induction l with
 |nil=>intro s h;exact⟨s.st,h,fun e=>⟨e,rfl⟩,by simp⟩
 |cons c l ih=>
  intro s h;rw[Bv,xU];cases hc:special c with
  |true=>exact⟨s.st,h,fun e=>⟨e,by simp⟩,by simp⟩
  |false=>
   obtain⟨st',h1,h2,h3⟩:=ih ⟨1,s.rows,s.row,s.field++[c]⟩ (.inr rfl)
   refine⟨st',h1,fun e=>absurd (h2 e).1 (by simp), ?_⟩
   rw[read,step_plain h hc]
   simpa using h3
theorem read_quoted (n:Nat): ∀(l:F) (rows:List (List F)) (row:List F) (f:F),l.length<=n->read ⟨2,rows,row,f⟩ l=
  match quotedA f l with
  |none=>(rows,210)
  |some (g,r)=>read ⟨3,rows,row,g⟩ r:=by
 induction n with
 |zero=>intro l rows row f hl;cases l with|nil=>rfl|cons c l=>simp at hl
 |succ n ih=>
  intro l rows row f hl;cases l with
  |nil=>rfl
  |cons c l=>
   rw[read,quotedA_cons];by_cases hc:c=34
   ·subst hc
    have e:step ⟨2,rows,row,f⟩ 34=.inl ⟨3,rows,row,f⟩:=rfl;rw[e,rY rfl]
    dsimp only
    cases l with
    |nil=>rfl
    |cons d r=>
     dsimp only
     rw[read];by_cases hd:d=34
     ·subst hd
      rw[rY rfl];have e:step ⟨3,rows,row,f⟩ 34=.inl ⟨2,rows,row,f++[34]⟩:=rfl;rw[e]
      exact ih r rows row _ (by simp at hl;omega)
     rw[rU hd];by_cases h3:d=44\/d=13\/d=10
     ·rw[rY h3]
      dsimp only
      rw[read]
     rw[rU h3]
     have e:step ⟨3,rows,row,f⟩ d=.inr 210:=by
      unfold step;simp only[yS]at h3
      rw[rU (by simp),rU (by simp),rU hd,rU (by simp[h3.1,h3.2.1]),rU h3.2.2,rY rfl]
     rw[e]
   rw[rU hc]
   have e:step ⟨2,rows,row,f⟩ c=.inl ⟨2,rows,row,f++[c]⟩:=by
    unfold step;rw[rU (by simp),rY rfl,rU hc]
   rw[e];exact ih l rows row _ (by simp at hl;omega)
theorem read_behind (rows:List (List F)) (row:List F) (f:F) (st:Nat) (hst:st=0\/st=1\/st=3) (r:F) (hr:r=[]\/ ∃d r',r=d :: r'/\(d=44\/d=13\/d=10)):
  read ⟨st,rows,row,f⟩ r=
   match r with
   |[]=>fin ⟨st,rows,row,f⟩
   |c :: r'=>if c=44 then read ⟨0,rows,row++[f],[]⟩ r' else if c=13/\r'.head?=some 10 then read ⟨0,rows++[row++[f]],[],[]⟩ r'.tail else(rows,211):=by
 rcases hr with rfl|⟨d,r',rfl,hd⟩
 ·rfl
 rw[read];have h4:st≠4:=by omega
 have h2:st≠2:=by omega
 rcases hd with rfl|rfl|rfl
 ·have e:step ⟨st,rows,row,f⟩ 44=.inl ⟨0,rows,row++[f],[]⟩:=by simp[step,h4,h2]
  rw[e];simp
 ·have e:step ⟨st,rows,row,f⟩ 13=.inl ⟨4,rows,row++[f],[]⟩:=by simp[step,h4,h2]
  rw[e]
  dsimp only
  cases r' with
  |nil=>rfl
  |cons a r'=>
   rw[read];by_cases ha:a=10
   ·subst ha;rfl
   have e:step ⟨4,rows,row++[f],[]⟩ a=.inr 211:=by simp[step,ha]
   rw[e];simp[ha]
 have e:step ⟨st,rows,row,f⟩ 10=.inr 211:=by simp[step,h4,h2]
 rw[e];simp
theorem read_field (rows:List (List F)) (row:List F) (l:F) (hne:row≠ []\/l≠ []):
  read ⟨0,rows,row,[]⟩ l=
   match fieldP l with
   |none=>(rows,210)
   |some (f,[])=>(rows++[row++[f]],0)
   |some (f,c :: r)=>if c=44 then read ⟨0,rows,row++[f],[]⟩ r else if c=13/\r.head?=some 10 then read ⟨0,rows++[row++[f]],[],[]⟩ r.tail else(rows,211):=by
 by_cases hq': ∃r,l=34 :: r
 ·obtain⟨r,rfl⟩:=hq'
  have ef:fieldP (34 :: r)=quotedA [] r:=rfl
  have er:read ⟨0,rows,row,[]⟩ (34 :: r)=read ⟨2,rows,row,[]⟩ r:=rfl
  rw[ef,er,read_quoted _ r rows row [] (rM _)];cases hq:quotedA [] r with
  |none=>rfl
  |some x=>
   obtain⟨f,r'⟩:=x
   dsimp only
   rw[read_behind rows row f 3 (by simp) r' (quotedA_rest hq).2]
   cases r'<;>simp[fin]
 have hne': ∀r,l≠34 :: r:=fun r e=>hq' ⟨r,e⟩
 rw[fieldP_other hne'];obtain⟨st',h1,h2,h3⟩:=read_plain l ⟨0,rows,row,[]⟩ (.inl rfl)
 rw[h3];have hll:=Ag (p:=(!special ·)) (l:=l)
 cases hp:plainP l with
 |none=>
  unfold plainP at hp
  split at hp
  ·rename_i x hx
   rw[hx]
   rcases h1 with rfl|rfl
   ·obtain⟨_,h5⟩:=h2 rfl
    have:l=34 :: x:=by rw[<-hll,h5,hx];rfl
    exact absurd this (hne' _)
   rfl
  cases hp
 |some x=>
  obtain⟨f,r⟩:=x;have hr:=(plainP_rest hp).2;unfold plainP at hp
  split at hp
  ·cases hp
  simp only[uH,uZ]at hp;obtain⟨h5,h6⟩:=hp
  dsimp only
  rw[tY,h5,h6,read_behind rows row _ st' (by rcases h1 with h|h<;>simp[h]) _ hr]
  rw[h5,h6]at hll;cases r with
  |nil=>
   dsimp only
   unfold fin;rw[rU (by dsimp only;omega),rU (by dsimp only;omega),rY ?_]
   dsimp only
   rcases hne with hne|hne
   ·exact .inl (uS.2 hne)
   refine .inr (.inl (uS.2 fun e=>hne ?_))
   rw[<-hll,e];rfl
  |cons c r=>rfl
theorem read_row (n:Nat): ∀(l:F) (rows:List (List F)) (row:List F),l.length<n->(row≠ []\/l≠ [])->
  (read ⟨0,rows,row,[]⟩ l=
   match rowA n row l with
   |(0,fs,r)=>read ⟨0,rows++[fs],[],[]⟩ r
   |(e+1,_,_)=>(rows,e+1))/\
  ((rowA n row l).1=0->(rowA n row l).2.2.length<l.length\/(l=[]/\(rowA n row l).2.2=[])):=by
 induction n with
 |zero=>intro l rows row h;omega
 |succ n ih=>
  intro l rows row h hne;rw[read_field rows row l hne];unfold rowA;cases hf:fieldP l with
  |none=>exact⟨rfl,fun h=>by simp at h⟩
  |some x=>
   obtain⟨f,r⟩:=x;have hr:=fieldP_rest hf;cases r with
   |nil=>
    dsimp only
    refine⟨by simp[read,fin],fun _=> ?_⟩
    cases l with
    |nil=>exact .inr ⟨rfl,rfl⟩
    |cons c l=>exact .inl (by simp)
   |cons c r=>
    dsimp only
    have hlen:=hr.1;simp only[sS]at hlen;by_cases hc:c=44
    ·rw[rY hc,rY hc]
     have:=ih r rows (row++[f]) (by omega) (.inl (by simp))
     refine⟨this.1,fun h0=> ?_⟩
     rcases this.2 h0 with h1|⟨h1,h2⟩
     ·exact .inl (by omega)
     exact .inl (by rw[h2];simp;omega)
    rw[rU hc,rU hc]
    split
    ·refine⟨rfl,fun _=> .inl ?_⟩
     have:r.tail.length<=r.length:=by cases r<;>simp
     dsimp only
     omega
    exact⟨rfl,fun h=>by simp at h⟩
theorem rowsA_length (n:Nat): ∀(acc:List (List F)) (l:F),(rowsA n acc l).1.length<=acc.length+l.length:=by
 induction n with
 |zero=>intro acc l;simp[rowsA]
 |succ n ih=>
  intro acc l;unfold rowsA;by_cases hl:l=[]
  ·rw[rY hl];simp
  rw[rU hl];have h2:=(read_row (l.length+1) l [] [] (by omega) (.inr hl)).2
  generalize rowA (l.length+1) [] l=x at h2⊢
  obtain⟨e,fs,r⟩:=x;cases e with
  |zero=>
   dsimp only
   have:=ih (acc++[fs]) r;rw[rP]at this
   rcases h2 rfl with h3|⟨h3,_⟩
   ·simp only[uh]at this h3;omega
   exact absurd h3 hl
  |succ e=>simp
theorem rowsOf_length (l:F):(rowsOf l).1.length<=l.length:=by
 have:=rowsA_length (l.length+1) [] l
 simpa[rowsOf] using this
theorem rows_read (n:Nat): ∀(l:F) (acc:List (List F)),l.length<n->rowsA n acc l=read ⟨0,acc,[],[]⟩ l:=by
 induction n with
 |zero=>intro l acc h;omega
 |succ n ih=>
  intro l acc h;unfold rowsA;by_cases hl:l=[]
  ·subst hl;rw[rY rfl];rfl
  rw[rU hl];obtain⟨h1,h2⟩:=read_row (l.length+1) l acc [] (by omega) (.inr hl)
  rw[h1]
  generalize rowA (l.length+1) [] l=x at h2⊢
  obtain⟨e,fs,r⟩:=x;cases e with
  |zero=>
   dsimp only
   refine ih r _ ?_
   rcases h2 rfl with h3|⟨h3,_⟩
   ·simp only at h3;omega
   exact absurd h3 hl
  |succ e=>rfl
theorem rowsOf_read (l:F):rowsOf l=read ⟨0,[],[],[]⟩ l:=rows_read _ l [] (by omega)
theorem read_esc (f:F): ∀(rows:List (List F)) (row:List F) (g:F) (l:F),read ⟨2,rows,row,g⟩ (esc f++l)=read ⟨2,rows,row,g++f⟩ l:=by
 induction f with
 |nil=>intro rows row g l;simp[esc]
 |cons c f ih=>
  intro rows row g l;by_cases hc:c=34
  ·subst hc
   have e:esc (34 :: f)++l=34 :: 34 ::(esc f++l):=by simp[esc]
   rw[e,read];have e1:step ⟨2,rows,row,g⟩ 34=.inl ⟨3,rows,row,g⟩:=rfl;rw[e1]
   dsimp only
   rw[read];have e2:step ⟨3,rows,row,g⟩ 34=.inl ⟨2,rows,row,g++[34]⟩:=rfl;rw[e2]
   dsimp only
   rw[ih];simp
  have e:esc (c :: f)++l=c ::(esc f++l):=by simp[esc,hc]
  rw[e,read]
  have e1:step ⟨2,rows,row,g⟩ c=.inl ⟨2,rows,row,g++[c]⟩:=by
   unfold step;rw[rU (by simp),rY rfl,rU hc]
  rw[e1]
  dsimp only
  rw[ih];simp
theorem takeWhile_all {p:UInt8->Bool} {f l:F} (h: ∀x∈f,p x=true) (hl:l=[]\/ ∃c r,l=c :: r/\p c=false):(f++l).takeWhile p=f/\(f++l).dropWhile p=l:=by
 induction f with
 |nil=>
  rcases hl with rfl|⟨c,r,rfl,hc⟩
  ·exact⟨rfl,rfl⟩
  simp[hc]
 |cons a f ih=>
  obtain⟨h1,h2⟩:=ih (fun x hx=>h x (by simp[hx]))
  have ha:=h a (by simp)
  rw[uG,Bv,xU,ha];simp[h1,h2]
theorem read_printF (rows:List (List F)) (row:List F) (f:F) (c:UInt8) (l:F) (hc:c=44\/c=13):
  ∃st,(st=0\/st=1\/st=3)/\read ⟨0,rows,row,[]⟩ (printF f++c :: l)=read ⟨st,rows,row,f⟩ (c :: l):=by
 unfold printF;cases hs:f.any special with
 |true=>
  refine⟨3,by simp, ?_⟩
  have e:(if true=true then 34 :: esc f++[34] else f)++c :: l=34 ::(esc f++34 :: c :: l):=by simp
  rw[e,read];have e1:step ⟨0,rows,row,[]⟩ 34=.inl ⟨2,rows,row,[]⟩:=rfl;rw[e1]
  dsimp only
  rw[read_esc,read];have e2:step ⟨2,rows,row,[]++f⟩ 34=.inl ⟨3,rows,row,f⟩:=rfl
  rw[e2]
 |false=>
  have hsp:special c=true:=by rcases hc with rfl|rfl<;>rfl
  have hf: ∀x∈f,(!special x)=true:=fun x hx=>by
   have:=yX.1 hs x hx
   simpa using this
  obtain⟨h1,h2⟩:=takeWhile_all (p:=(!special ·)) (l:=c :: l) hf (.inr ⟨c,l,rfl,by simp[hsp]⟩)
  obtain⟨st',h3,_,h5⟩:=read_plain (f++c :: l) ⟨0,rows,row,[]⟩ (.inl rfl)
  refine⟨st',by rcases h3 with h|h<;>simp[h], ?_⟩
  rw[h1,h2]at h5
  simpa using h5
theorem read_fields (r:List F): ∀(rows:List (List F)) (row:List F) (k:Nat) (l:F),0<k->(∃p f,row=p++[f])->
  ∀p f,row=p++[f]-> ∀st,(st=0\/st=1\/st=3)->read ⟨st,rows,p,f⟩ (fieldsK k r++[13,10]++l)=read ⟨0,rows++[row++r],[],[]⟩ l:=by
 induction r with
 |nil=>
  intro rows row k l hk _ p f hp st hst
  have e:fieldsK k []++[13,10]++l=13 :: 10 :: l:=rfl
  rw[e,read_behind rows p f st hst _ (.inr ⟨13,10 :: l,rfl,by simp⟩)]
  simp[hp]
 |cons g r ih=>
  intro rows row k l hk _ p f hp st hst
  have e:fieldsK k (g :: r)++[13,10]++l=44 ::(printF g ++(fieldsK (k+1) r++[13,10]++l)):=by simp[fieldsK,hk]
  rw[e,read_behind rows p f st hst _ (.inr ⟨44,_,rfl,by simp⟩)]
  dsimp only
  rw[rY rfl,<-hp]
  have hfc: ∃c l',fieldsK (k+1) r++[13,10]++l=c :: l'/\(c=44\/c=13):=by
   cases r with
   |nil=>exact⟨13,_,rfl,by simp⟩
   |cons a r=>exact⟨44,_,by simp[fieldsK];rfl,by simp⟩
  obtain⟨c,l',hc,hcc⟩:=hfc;rw[hc];obtain⟨st',h1,h2⟩:=read_printF rows row g c l' hcc
  rw[h2,<-hc,ih rows (row++[g]) (k+1) l (by omega) ⟨row,g,rfl⟩ row g rfl st' h1]
  simp
theorem read_printRow (rows:List (List F)) (r:List F) (l:F) (hr:r≠ []):read ⟨0,rows,[],[]⟩ (printRow r++l)=read ⟨0,rows++[r],[],[]⟩ l:=by
 cases r with
 |nil=>exact absurd rfl hr
 |cons f r=>
  have e:printRow (f :: r)++l=printF f ++(fieldsK 1 r++[13,10]++l):=by simp[printRow,fieldsK]
  rw[e]
  have hfc: ∃c l',fieldsK 1 r++[13,10]++l=c :: l'/\(c=44\/c=13):=by
   cases r with
   |nil=>exact⟨13,_,rfl,by simp⟩
   |cons a r=>exact⟨44,_,by simp[fieldsK];rfl,by simp⟩
  obtain⟨c,l',hc,hcc⟩:=hfc;rw[hc];obtain⟨st',h1,h2⟩:=read_printF rows [] f c l' hcc
  rw[h2,<-hc,read_fields r rows [f] 1 l (by omega) ⟨[],f,rfl⟩ [] f rfl st' h1]
  simp
theorem read_print (rs:List (List F)): ∀(rows:List (List F)) (l:F),[]∉rs->read ⟨0,rows,[],[]⟩ (rs.flatMap printRow++l)=read ⟨0,rows++rs,[],[]⟩ l:=by
 induction rs with
 |nil=>intro rows l _;simp
 |cons r rs ih=>
  intro rows l h
  have e:(r :: rs).flatMap printRow++l=printRow r ++(rs.flatMap printRow++l):=by simp
  rw[e,read_printRow rows r _ (fun e=>h (by simp[e])),ih _ _ (fun e=>h (by simp[e]))]
  simp
theorem rows_print (rs:List (List F)) (h: []∉rs):rowsOf (rs.flatMap printRow)=(rs,0):=by
 rw[rowsOf_read];have:=read_print rs [] [] h;simp only[tC,tY]at this;rw[this]
 simp[read,fin]
end Go.Proofs.YtanlehkalkafdaaGreatDoor.Csv
namespace Go.Proofs.YtanlehkalkafdaaGreatDoor
open Go.RowKit
theorem peek_yes (b:Nat) (s:ByteArray) (a:Int) (at_:Nat) (w:World) (hb:Blk w b 165 #[.string s,.int .i64 a]) (ha:a=at_) (h:at_<s.size) (hs:s.size<=1073741824):
  Calls Tryz.prog 152 #[.pointer (some ⟨b,0,none⟩)] w fun e w'=>e=.returned (.tuple #[.int .u8 (s[at_]'h).toNat,.bool true])/\ ∃n,w.drewN n=w':=by
 subst ha;have h0:=hb.cell 0;have h1:=hb.cell 1;simp at h0 h1;have HB:=ah hb;clear hb
 have hd:decide ((s.size:Int)<=at_)=false:=by simp;omega
 have hi:((at_:Int))<s.size:=by omega
 go_enter Tryz.func152,Tryz.ntmps152;go_wp2
 go_quiet (fail)
 go_wp2
 go_quiet (fail)
 go_wp2
 go_ret2
 exact⟨rfl,_,(World.drewN_drewN _ _ _).symm⟩
theorem peek_no (b:Nat) (s:ByteArray) (a:Int) (at_:Nat) (w:World) (hb:Blk w b 165 #[.string s,.int .i64 a]) (ha:a=at_) (h:s.size<=at_):
  Calls Tryz.prog 152 #[.pointer (some ⟨b,0,none⟩)] w fun e w'=>e=.returned (.tuple #[.int .u8 0,.bool false])/\ ∃n,w.drewN n=w':=by
 subst ha;have h0:=hb.cell 0;have h1:=hb.cell 1;simp at h0 h1;have HB:=ah hb;clear hb
 have hd:decide ((s.size:Int)<=at_)=true:=by simp;omega
 go_enter Tryz.func152,Tryz.ntmps152;go_wp2
 go_quiet (fail)
 go_wp2
 go_ret2
 exact⟨rfl,_,rfl⟩
def FieldRes (s:ByteArray) (b:Nat) (w:World) (res:Option (Csv.F×Csv.F)) (e:Ending) (w':World):Prop:=
 w.grownBy w' (some b)/\
 match res with
 |none=>e=.returned (.tuple #[.string ⟨#[]⟩,.int .i64 210])
 |some (f,r)=>e=.returned (.tuple #[.string ⟨f.toArray⟩,.int .i64 0])/\ ∃at':Nat,at'<=s.size/\s.data.toList.drop at'=r/\Blk w' b 165 #[.string s,.int .i64 at']
theorem fieldRes_some {s:ByteArray} {b:Nat} {w w':World} {f r:List UInt8} {v x:Value} (at':Nat) (hg:w.grownBy w' (some b)) (hv:v=.string ⟨f.toArray⟩) (hat:at'<=s.size) (hd:s.data.toList.drop at'=r)
  (hx:x=.int .i64 at') (hb:Blk w' b 165 #[.string s,x]):FieldRes s b w (some (f,r)) (.returned (.tuple #[v,.int .i64 0])) w':=by
 subst hv hx;exact⟨hg,rfl,at',hat,hd,hb⟩
theorem special_set (c:UInt8): [34,44,13,10].contains c=Csv.special c:=by
 simp only[List.contains_cons,List.contains_nil,Bool.or_false,Csv.special,Bool.or_assoc]
theorem indexAny_take (l:List UInt8):(Lib.indexAny l [34,44,13,10]= -1/\l.dropWhile (!Csv.special ·)=[]/\l.takeWhile (!Csv.special ·)=l)\/
  (Lib.indexAny l [34,44,13,10]=((l.takeWhile (!Csv.special ·)).length:Int)/\ ∃c r,l.dropWhile (!Csv.special ·)=c :: r):=by
 induction l with
 |nil=>exact .inl ⟨rfl,rfl,rfl⟩
 |cons c l ih=>
  rw[Lib.indexAny,special_set,Bv,xU];cases hc:Csv.special c with
  |true=>exact .inr ⟨by simp,c,l,by simp⟩
  |false=>
   rcases ih with⟨h1,h2,h3⟩|⟨h1,h2⟩
   ·exact .inl ⟨by simp[h1],by simp[h2],by simp[h3]⟩
   refine .inr ⟨?_,by simpa using h2⟩
   have hne:(Lib.indexAny l [34,44,13,10] == -1)=false:=by rw[h1];exact rX.2 (by omega)
   rw[hne,h1];simp
theorem csv_drop (s:ByteArray) (a:Nat):(s.extract a s.size).data.toList=s.data.toList.drop a:=by
 rw[Lib.extract_data,sG];rw[Lib.size_eq];simp
theorem csv_take (s:ByteArray) (a n:Nat) (h:a+n<=s.size):(s.extract a (a+n)).data.toList=(s.data.toList.drop a).take n:=by
 rw[Lib.extract_data]
 congr 1
 omega
theorem str_of_list (s:ByteArray) (l:List UInt8) (h:s.data.toList=l):Value.string s=Value.string ⟨l.toArray⟩:=by subst h;rfl
theorem scan_put {w:World} {b T:Nat} {x y:Value} (h:Blk w b T #[x,y]) (v:Value):Blk (w.setCell ⟨b,1,none⟩ v) b T #[x,v]:=h.set_ 1 v
theorem set_ascii: ∀(j:Nat) b,(⟨#[34,44,13,10]⟩:ByteArray).data.toList[j]?=some b->b.toNat<128:=by
 intro j b h;have:b∈ [34,44,13,10]:=sK h;simp at this
 rcases this with rfl|rfl|rfl|rfl<;>decide
theorem plain_any (b:Nat) (s:ByteArray) (at_:Nat) (w:World) (hb:Blk w b 165 #[.string s,.int .i64 at_]) (hat:at_<=s.size) (hs:s.size<=1073741824):
  Calls Tryz.prog 154 #[.pointer (some ⟨b,0,none⟩)] w (FieldRes s b w (Csv.plainP (s.data.toList.drop at_))):=by
 have h0:=hb.cell 0;have h1:=hb.cell 1;simp at h0 h1;have hi:((at_:Int))<=s.size:=by omega
 obtain⟨R,hR⟩:=aj (Lib.indexAny (s.data.toList.drop at_) [34,44,13,10])
 have hia: ∀wx:World,Calls Tryz.prog 107 #[.string (s.extract at_ s.size),.string ⟨#[34,44,13,10]⟩] wx fun e w'=>e=.returned (.int .i64 R)/\Below wx.heap.size wx w':=fun wx=>
  (indexAny_any _ _ wx (by simp;omega) (by decide) (by decide) set_ascii).mono fun e w' ⟨he,hw⟩=>⟨by rw[he,csv_drop];exact ret_eq (int_eq hR),hw⟩
 have HB:=ah hb;clear hb
 have hl:(s.data.toList.drop at_).length=s.size - at_:=by rw[uJ,<-Lib.size_eq]
 rcases indexAny_take (s.data.toList.drop at_) with⟨k1,k2,k3⟩|⟨k1,c,r,k2⟩
 ·rw[hR]at k1
  subst k1
  have hpl:Csv.plainP (s.data.toList.drop at_)=some (s.data.toList.drop at_,[]):=by
   unfold Csv.plainP;rw[k2,k3]
  rw[hpl];have HK:=ah hR;clear hR k2 k3 hpl hl;go_enter Tryz.func154,Tryz.ntmps154;go_wp2
  go_still_tail 9,(by kernel_rfl)
  change wpList _ _ _ _ _ w.drew
  go_wp2_with (go_at_call 107;refine(hia _).mono ?_;rintro e w1 ⟨rfl,hb1⟩)
  have hB1:Blk w1 b 165 #[.string s,.int .i64 at_]:=Blk.below (w:=w.drew) HB.out hb1 (Blk.lt HB.out)
  have g0:=hB1.cell 0;have g1:=hB1.cell 1;have f1:=hB1.frozen 1;simp at g0 g1
  have HB1:=ah hB1;clear hB1
  go_quiet (fail)
  go_wp2
  go_quiet (fail)
  go_wp2_with fail
  refine(peek_no b s _ s.size _ (scan_put (w:=w1.drewN _) HB1.out _) (by omega) (rM _)).mono ?_
  rintro e w2 ⟨rfl,n2,rfl⟩;go_wp2
  go_ret2
  exact fieldRes_some s.size (only_drewN (only_setCell (only_drewN (only_below (only_drew (only_refl w _)) hb1) _) (.inl rfl) _) n2) (str_of_list _ _ (csv_drop s at_)) (rM _) (uq (by rw[Lib.size_eq];exact rM _))
   (int_eq (by omega)) (scan_put (w:=w1.drewN _) HB1.out _)
 obtain⟨n,hn⟩:=aj (((s.data.toList.drop at_).takeWhile (!Csv.special ·)).length)
 have hll:=Ag (p:=(!Csv.special ·)) (l:=s.data.toList.drop at_)
 rw[k2]at hll
 have hlt:at_+n<s.size:=by
  have:=uo List.length hll;rw[rP,hn,hl]at this;simp at this;omega
 have htake:(s.data.toList.drop at_).takeWhile (!Csv.special ·)=(s.data.toList.drop at_).take n:=by
  have:=List.take_left' (l₂:=c :: r) hn;rw[hll]at this;exact this.symm
 have hdrop:s.data.toList.drop (at_+n)=c :: r:=by
  rw[<-y9,<-hll,List.drop_left' hn]
 have hc:s[at_+n]'hlt=c:=by
  have h5:=get_list s (at_+n) hlt
  have h6:(s.data.toList.drop (at_+n))[0]?=some c:=by rw[hdrop];rfl
  rw[zO,vw,h5]at h6;exact tN h6
 rw[hR,hn]at k1;subst k1;have hin:((at_:Int)+n)<s.size:=by omega
 have hn0:decide ((n:Int)<0)=false:=rO (by omega)
 have HP:Hid (Csv.plainP (s.data.toList.drop at_)=if c=34 then none else some ((s.data.toList.drop at_).take n,c :: r)):=by
  show _=_
  unfold Csv.plainP;rw[k2,htake];by_cases h34:c=34
  ·subst h34;rfl
  rw[rU h34]
  split
  ·rename_i heq
   cases heq;exact absurd rfl h34
  rfl
 have HC:=ah hc;have HD:=ah hdrop;clear hR k2 hn hll hl htake hdrop hc
 go_enter Tryz.func154,Tryz.ntmps154;go_wp2
 go_still_tail 9,(by kernel_rfl)
 change wpList _ _ _ _ _ w.drew
 go_wp2_with (go_at_call 107;refine(hia _).mono ?_;rintro e w1 ⟨rfl,hb1⟩)
 have hB1:Blk w1 b 165 #[.string s,.int .i64 at_]:=Blk.below (w:=w.drew) HB.out hb1 (Blk.lt HB.out)
 have g0:=hB1.cell 0;have g1:=hB1.cell 1;have f1:=hB1.frozen 1;simp at g0 g1
 have HB1:=ah hB1;clear hB1
 go_quiet (fail)
 go_wp2_with fail
 refine(peek_yes b s _ (at_+n) _ (scan_put (w:=w1.drewN _) HB1.out _) (by omega) (by omega) hs).mono ?_
 rintro e w2 ⟨rfl,n2,rfl⟩;rw[HC.out]
 have hg:=only_drewN (only_setCell (only_drewN (only_below (only_drew (only_refl w (some b))) hb1) nq) (p:=⟨b,1,none⟩) (.inl rfl) (.int .i64 ((at_:Int)+n))) n2
 have HG:=ah hg;clear hg;by_cases h34:c=34
 ·subst h34
  go_wp2
  go_ret2
  rw[HP.out]
  first|rw[rY rfl]|rw[rY trivial]
  exact⟨HG.out,rfl⟩
 have hcb:((c.toNat:Int) == 34)=false:=by
  refine rX.2 fun e=>h34 (vS.1 ?_)
  simp;omega
 go_wp2
 go_ret2
 rw[HP.out,rU h34]
 exact fieldRes_some (at_+n) HG.out (str_of_list _ _ (csv_take s at_ n (by omega))) (by omega) HD.out (int_eq (by omega)) (scan_put (w:=w1.drewN _) HB1.out _)
end Go.Proofs.YtanlehkalkafdaaGreatDoor
