/- Contracts and plain laws,part 15. -/
import Derived.Test.YtoofbflplhbpbaaGreatDoorUO14
set_option linter.all false
namespace Go.Proofs.YtoofbflplhbpbaaGreatDoor.Cy
open Go
theorem MX {α κ:Type} {key:α->κ} {R:κ->κ->Prop} (tr: ∀{a b c},R a b->R b c->R a c) {l:List α} (h: ∀(j:Nat) a,l[j]?=some a-> ∀q,Gr.aG key l j=some q->R q (key a)):l.Pairwise (fun a b=>R (key a) (key b)):=by
 have hs: ∀(d i:Nat) (hi:i<l.length) (hj:i+d+1<l.length),R (key l[i]) (key l[i+d+1]):=by
  intro d
  induction d with
  | zero=>intro i hi hj;exact h (i+1) _ (ab2 hj) _ (Gr.QO (ab2 hi))
  | succ d ih=>
   intro i hi hj
   exact tr (ih i hi (by omega)) (h (i+(d+1)+1) _ (ab2 hj) _ (Gr.QO (ab2 (by omega))))
 rw [alu];intro i j hi hj hij;have:=hs (j - i - 1) i hi (by omega)
 have e:i+(j - i - 1)+1=j:=by omega
 simp only [e] at this;exact this
theorem Zb {α κ:Type} {key:α->κ} {lt:κ->κ->Prop} {le:κ->κ->Bool} {l l':List α} (hp:l'.Perm l) (h:l.Pairwise (fun a b=>lt (key a) (key b))) (h1: ∀a b,lt a b->le a b=true) (tr: ∀a b c,le a b=true->le b c=true->le a c=true) (tot: ∀a b,(le a b || le b a)=true)
  (no: ∀a b,lt a b->le b a=false):Gr.nJ le key l'=l:=by
 unfold Gr.nJ
 refine List.Perm.eq_of_pairwise (le:=fun a b=>le (key a) (key b)=true) ?_ (aoX (le:=fun a b=>le (key a) (key b)) (fun a b c=>tr (key a) (key b) (key c)) (fun a b=>tot (key a) (key b)) _) (h.imp (fun hx=>h1 _ _ hx)) ((aku _ _).trans hp)
 intro a b ha hb hab hba;have ha:=hp.mem_iff.1 ((aku _ _).mem_iff.1 ha)
 obtain ⟨i,hi,rfl⟩:=ad2 ha;obtain ⟨j,hj,rfl⟩:=ad2 hb;rw [alu] at h
 rcases aoL i j with hlt | rfl | hgt
 ·rw [no _ _ (h i j hi hj hlt)] at hba;cases hba
 ·rfl
 rw [no _ _ (h j i hj hi hgt)] at hab;cases hab
theorem Zc {α:Type} {key:α->Int} {l l':List α} (hp:l'.Perm l) (h:l.Pairwise (fun a b=>key a<key b)):Gr.nJ (fun a b:Int=>decide (a<=b)) key l'=l:=
 Zb (lt:=fun a b=>a<b) hp h (fun a b h=>abW (by omega)) (fun a b c h k=>abW (by have:=aci h;have:=aci k;omega))
  (fun a b=>by simp only [ak6,acZ];omega) (fun a b h=>abX (by omega))
theorem Zd {α:Type} {key:α->L} {l l':List α} (hp:l'.Perm l) (h:l.Pairwise (fun a b=>key a<key b)):Gr.nJ (fun a b:L=>decide (a<=b)) key l'=l:=
 Zb (lt:=fun a b=>a<b) hp h (fun a b h=>abW (anI h)) (fun a b c h k=>abW (ao5 (aci h) (aci k)))
  (fun a b=>by simp only [ak6,acZ];exact List.le_total a b) (fun a b h=>abX (aoM.2 h))
theorem FC {α κ:Type} {key:α->κ} {lt:κ->κ->Prop} (ir: ∀a,¬lt a a) {l:List α} (h:l.Pairwise (fun a b=>lt (key a) (key b))):(l.map key).Nodup:=by
 unfold List.Nodup;rw [ane]
 exact h.imp fun {a b} hx (e:key a=key b)=>ir (key b) (by rw [e] at hx;exact hx)
theorem Ze {ps:List Gr.P} (h:Gr.uq ps):ps.Pairwise (fun a b=>a.key<b.key):=MX (key:=Gr.P.key) (R:=fun a b=>a<b) List.lt_trans fun j a ha q hq=>aoM.1 ((h.all j a ha).lt q hq)
theorem Zf {ls:List L} (h:Gr.Iy ls):ls.Pairwise (fun a b=>a<b):=MX (key:=id) (R:=fun a b=>a<b) List.lt_trans fun j a ha q hq=>aoM.1 ((h.all j a ha).lt q hq)
theorem Q8 {ns:List Gr.N} (h:Gr.uw ns):ns.Pairwise (fun a b=>a.id<b.id):=MX (key:=Gr.N.id) (R:=fun a b=>a<b) Int.lt_trans fun j a ha q hq=>(h.all j a ha).lt q hq
theorem Q9 {ids:List Int} {rs:List Gr.R} (h:Gr.xH ids rs):rs.Pairwise (fun a b=>a.id<b.id):=MX (key:=Gr.R.id) (R:=fun a b=>a<b) Int.lt_trans fun j a ha q hq=>(h.all j a ha).lt q hq
theorem Zg {ps:List Gr.P} (h:Gr.uq ps):(ps.map Gr.P.key).Nodup:=FC (lt:=fun a b=>a<b) (fun a=>ao1 a) (Ze h)
theorem ag4 {ls:List L} (h:Gr.Iy ls):ls.Nodup:=by have:=FC (key:=id) (lt:=fun a b=>a<b) (fun a=>ao1 a) (Zf h);rwa [aoN] at this
structure Fine (g:Gr.G):Prop where
 good:Gr.Good g
 nums: ∀p∈Gr.fH g,ak.In64 p.val.num/\ ∀n∈p.val.nums,ak.In64 n
theorem ag5 {ls:List L} (h:Gr.Iy ls): ∀l∈ls,Gr.dw l=true:=fun l hl=>by
 obtain ⟨j,hj,e⟩:=ad2 hl;exact (h.all j l (by rw [ab2 hj,e])).name
theorem Zh {g:Gr.G} (h:Fine g) {ps:List Gr.P} (hg:Gr.uq ps) (hs: ∀p∈ps,p∈Gr.fH g): ∀p∈ps,Bo p:=fun p hp=>
 ⟨hg.name p hp,hg.val p hp,(h.nums p (hs p hp)).1,(h.nums p (hs p hp)).2⟩
structure FD (n:Gr.N):Prop where
 good:IC n
 labels:n.labels.Nodup
 keys:(n.props.map Gr.P.key).Nodup
 canon:Gr.rU n=n
structure FH (n:Gr.R):Prop where
 good:IE n
 keys:(n.props.map Gr.P.key).Nodup
 canon:Gr.vK n=n
theorem Zi {ps:List Gr.P} (h:Gr.uq ps):Gr.uo ps=ps:=Zd (aoF _) (Ze h)
theorem Fine.node {g:Gr.G} (h:Fine g) {n:Gr.N} (hn:n∈g.nodes):FD n:=by
 obtain ⟨_,hg⟩:=h.good.nodes.mem hn
 refine ⟨⟨hg.lo,hg.hi,ag5 hg.labels,Zh h hg.props fun p hp=>akY _ (ad1.2 ⟨n,hn,hp⟩)⟩,ag4 hg.labels,Zg hg.props, ?_⟩
 unfold Gr.rU Gr.xF;rw [Zi hg.props,Zd (key:=id) (aoF _) (Zf hg.labels)]
theorem Zj {g:Gr.G} (h:Fine g) {x:Int} (hx:x∈g.nodes.map Gr.N.id):0<=x/\x<1024:=by
 obtain ⟨n,hn,rfl⟩:=ad5.1 hx;exact ⟨(h.node hn).good.lo,(h.node hn).good.hi⟩
theorem Fine.rel {g:Gr.G} (h:Fine g) {n:Gr.R} (hn:n∈g.au):FH n:=by
 obtain ⟨_,hg⟩:=h.good.au.mem hn;have hs:=Zj h hg.src;have hd:=Zj h hg.dst
 refine ⟨⟨hg.lo,hg.hi,hs.1,hs.2,hd.1,hd.2,hg.name,Zh h hg.props fun p hp=>alv _ (ad1.2 ⟨n,hn,hp⟩)⟩,Zg hg.props, ?_⟩
 unfold Gr.vK;rw [Zi hg.props]
theorem II {c:UInt8} {n m:Int} (h0:0<=n) (h1:n<m) (hm:m<=2048):mX c m (c :: Lib.itoa n)=some n:=by
 have hp:=Num.Xw n (by omega) (by omega)
 unfold mX;simp only;rw [hp,ab7 (by simp only [and_self,true_and];exact ⟨h0,h1⟩)]
theorem Zk: ∀(ls seen:List L),(∀l∈ls,Gr.dw l=true)->(seen ++ ls).Nodup->y8 seen ls=0
 | [],_,_,_=>rfl
 | l :: ls,seen,hn,hd=>by
  rw [y8,ab6 (by rw [hn l (by simp)];decide),ab6,Zk ls _ (fun x hx=>hn x (ada _ hx)) (by rw [acF];exact hd)]
  rw [amB] at hd;intro hx;exact hd.2.2 l hx l (by simp) rfl
theorem Rf: ∀(ps:List Gr.P) (seen:List L),(∀p∈ps,Bo p)->(seen ++ ps.map Gr.P.key).Nodup->dV seen ps=0
 | [],_,_,_=>rfl
 | p :: ps,seen,hn,hd=>by
  have hp:=hn p (by simp)
  rw [dV,ab6 (by rw [hp.name];decide),ab6,ab6 (by rw [hp.val.ck];decide),Rf ps _ (fun x hx=>hn x (ada _ hx)) (by rw [acF];exact hd)]
  rw [amB] at hd;intro hx;exact hd.2.2 p.key hx p.key (by simp) rfl
theorem ag6 {g:Gr.G} {n:Gr.N} (h:FD n) (hid:n.id∉g.nodes.map Gr.N.id):add g (jZ n)=(⟨g.nodes ++ [n],g.au⟩,0):=by
 unfold add jZ;rw [ab6 (by simp)]
 unfold addNode;simp only;rw [II h.good.lo h.good.hi (by decide)]
 simp only
 rw [ab6 hid,Zk _ [] h.good.labels h.labels,ab6 (by decide),Rf _ [] h.good.props h.keys]
theorem Zl {g:Gr.G} {n:Int} (h0:0<=n) (h1:n<1024) (hm:n∈g.nodes.map Gr.N.id):endP g (110 :: Lib.itoa n)=(n,0):=by
 unfold endP;rw [II h0 h1 (by decide)]
 simp only;rw [ab7 hm]
theorem ag7 {g:Gr.G} {n:Gr.R} (h:FH n) (hid:n.id∉g.au.map Gr.R.id) (hs:n.src∈g.nodes.map Gr.N.id) (hd:n.dst∈g.nodes.map Gr.N.id):add g (kR n)=(⟨g.nodes,g.au ++ [n]⟩,0):=by
 unfold add kR;rw [ab7 rfl];unfold Bj;simp only
 rw [Zl h.good.Uc h.good.shi hs,Zl h.good.dlo h.good.dhi hd,ab6 (by simp),II h.good.lo h.good.hi (by decide)]
 have hg: ¬Gr.dw ([n.type].headD [])=false:=by rw [show [n.type].headD []=n.type from rfl,h.good.name];decide
 simp only;rw [ab6 hid,ab6 hg,Rf _ [] h.good.props h.keys];simp
theorem Rh: ∀(ns:List Gr.N) (g:Gr.G) (r:List aZ),(∀n∈ns,FD n)->((g.nodes ++ ns).map Gr.N.id).Nodup->make g (ns.map jZ ++ r)=make ⟨g.nodes ++ ns,g.au⟩ r
 | [],g,r,_,_=>by rw [acK];rfl
 | n :: ns,g,r,hn,hd=>by
  have hid:n.id∉g.nodes.map Gr.N.id:=fun hx=>by
   rw [ade,amB] at hd;exact hd.2.2 _ hx n.id (by simp) rfl
  rw [adA,adV,make,ag6 (hn n (by simp)) hid,ab6 (by simp),Rh ns (⟨g.nodes ++ [n],g.au⟩,0).1 r (fun x hx=>hn x (ada _ hx)) (by simpa using hd),acF]
  rfl
theorem Ri: ∀(rs:List Gr.R) (g:Gr.G) (r:List aZ),(∀n∈rs,FH n)->(∀n∈rs,n.src∈g.nodes.map Gr.N.id/\n.dst∈g.nodes.map Gr.N.id)->((g.au ++ rs).map Gr.R.id).Nodup->make g (rs.map kR ++ r)=make ⟨g.nodes,g.au ++ rs⟩ r
 | [],g,r,_,_,_=>by rw [acK];rfl
 | n :: rs,g,r,hn,he,hd=>by
  have hid:n.id∉g.au.map Gr.R.id:=fun hx=>by
   rw [ade,amB] at hd;exact hd.2.2 _ hx n.id (by simp) rfl
  rw [adA,adV,make,ag7 (hn n (by simp)) hid (he n (by simp)).1 (he n (by simp)).2,ab6 (by simp),Ri rs (⟨g.nodes,g.au ++ [n]⟩,0).1 r (fun x hx=>hn x (ada _ hx)) (fun x hx=>he x (ada _ hx)) (by simpa using hd),acF]
  rfl
def mJ (ns:List Gr.N) (rs:List Gr.R):L:=ns.flatMap bY ++ rs.flatMap bD
theorem MZ (g:Gr.G):print g=mJ g.nodes g.au:=by
 unfold print lines mJ;rw [amY,amm,amm]
theorem Rj {s:L} {cs:List C} (h:aA s cs) (hl:s.length<=16777216):(Lex.read s).1.map core=cs/\(Lex.read s).2=none:=by
 unfold Lex.read;rw [ab6 (by omega)]
 exact h 0
theorem Rk (n:Gr.N):1<=(Bq n).length:=by unfold Bq;simp
theorem Na (n:Gr.R):1<=(Bv n).length:=by unfold Bv;simp
theorem zh {α:Type} {f:α->List C} (h: ∀a,1<=(f a).length): ∀l:List α,l.length<=(l.flatMap f).length
 | []=>by simp
 | a :: l=>by
  have:=zh h l;have:=h a;rw [adz,dA,acd];omega
theorem Zm {g:Gr.G} (h:Fine g) {ns:List Gr.N} {rs:List Gr.R} (hn:ns.Perm g.nodes) (hr:rs.Perm g.au) (hl:(mJ ns rs).length<=16777216):parse (mJ ns rs)=(g,0):=by
 have fn: ∀n∈ns,FD n:=fun n hx=>h.node (hn.mem_iff.1 hx)
 have fr: ∀n∈rs,FH n:=fun n hx=>h.rel (hr.mem_iff.1 hx)
 have hrd:=aA.nodes ns (fun n hx=>(fn n hx).good) (aA.au rs (fun n hx=>(fr n hx).good) aA.nil)
 rw [acK] at hrd;obtain ⟨h1,h2⟩:=Rj hrd hl;unfold parse
 rw [show Lex.read (mJ ns rs)=Lex.read (List.flatMap bY ns ++ List.flatMap bD rs) from rfl,h2]
 have hpt:patterns (Lex.read (List.flatMap bY ns ++ List.flatMap bD rs)).1=some (ns.map jZ ++ rs.map kR):=by
  obtain ⟨tk,htk⟩: ∃tk,(Lex.read (List.flatMap bY ns ++ List.flatMap bD rs)).1=tk:=⟨_,rfl⟩
  rw [htk] at h1⊢;have hlen:=Fz h1;rw [dA,dA] at hlen;have:=zh Rk ns;have:=zh Na rs
  unfold patterns
  rw [show tk.length+1=tk.length - ns.length - rs.length+1+rs.length+ns.length by omega]
  obtain ⟨r1,e1,e2⟩:=IG ns _ tk [] _ (fun n hx=>(fn n hx).good) h1
  obtain ⟨r2,e3,e4⟩:=FB rs _ r1 _ _ (fun n hx=>(fr n hx).good) e2
  rw [e1,e3];cases r2 with
  | nil=>rw [adI];simp [script]
  | cons=>cases e4
 rw [hpt]
 have nd:=(hn.map Gr.N.id).nodup_iff.2 (FC (lt:=fun a b:Int=>a<b) (fun a=>aoS a) (Q8 h.good.nodes))
 have rd:=(hr.map Gr.R.id).nodup_iff.2 (FC (lt:=fun a b:Int=>a<b) (fun a=>aoS a) (Q9 h.good.au))
 have hm:make Gr.G0 (ns.map jZ ++ rs.map kR)=(⟨ns,rs⟩,0):=by
  rw [Rh ns Gr.G0 _ fn (by simpa [Gr.G0] using nd)]
  have:=Ri rs ⟨Gr.G0.nodes ++ ns,Gr.G0.au⟩ [] fr (fun n hx=>by
   obtain ⟨_,hg⟩:=h.good.au.mem (hr.mem_iff.1 hx)
   have e:(Gr.G0.nodes ++ ns).map Gr.N.id=ns.map Gr.N.id:=rfl
   show n.src∈(Gr.G0.nodes ++ ns).map Gr.N.id/\n.dst∈(Gr.G0.nodes ++ ns).map Gr.N.id
   rw [e,(hn.map Gr.N.id).mem_iff,(hn.map Gr.N.id).mem_iff]
   exact ⟨hg.src,hg.dst⟩) (by simpa [Gr.G0] using rd)
  rw [acK] at this;rw [this];rfl
 have hc:Gr.canon ⟨ns,rs⟩=g:=by
  unfold Gr.canon
  have e1:ns.map Gr.rU=ns:=by rw [amZ (g:=id) fun n hx=>(fn n hx).canon,aoN]
  have e2:rs.map Gr.vK=rs:=by rw [amZ (g:=id) fun n hx=>(fr n hx).canon,aoN]
  simp only;rw [e1,e2,Zc hn (Q8 h.good.nodes),Zc hr (Q9 h.good.au)]
 simp only;rw [hm];simp only [ne_eq,anb,amw];rw [hc,Gr.xJ.2 h.good,ab6 (by decide)]
theorem ag8 {g:Gr.G} (h:Fine g) (hl:(print g).length<=16777216):parse (print g)=(g,0):=by
 rw [MZ] at hl⊢;exact Zm h (aoF _) (aoF _) hl
theorem ag9 {g:Gr.G} (h:Fine g) (h0:g.nodes≠ []) (hl:(print g ++ print g).length<=16777216):(parse (print g ++ print g)).2=7:=by
 have fn: ∀n∈g.nodes,FD n:=fun n hx=>h.node hx
 have fr: ∀n∈g.au,FH n:=fun n hx=>h.rel hx
 have hrd:=aA.nodes g.nodes (fun n hx=>(fn n hx).good) (aA.au g.au (fun n hx=>(fr n hx).good) (aA.nodes g.nodes (fun n hx=>(fn n hx).good) (aA.au g.au (fun n hx=>(fr n hx).good) aA.nil)))
 rw [acK,acK,<-acF] at hrd;rw [MZ] at hl⊢;obtain ⟨h1,h2⟩:=Rj hrd hl;unfold parse
 rw [show Lex.read (mJ g.nodes g.au ++ mJ g.nodes g.au)=Lex.read (List.flatMap bY g.nodes ++ List.flatMap bD g.au ++(List.flatMap bY g.nodes ++ List.flatMap bD g.au)) from rfl,h2]
 have hpt:patterns (Lex.read (List.flatMap bY g.nodes ++ List.flatMap bD g.au ++(List.flatMap bY g.nodes ++ List.flatMap bD g.au))).1=some (g.nodes.map jZ ++ g.au.map kR ++ g.nodes.map jZ ++ g.au.map kR):=by
  obtain ⟨tk,htk⟩: ∃tk,(Lex.read (List.flatMap bY g.nodes ++ List.flatMap bD g.au ++(List.flatMap bY g.nodes ++ List.flatMap bD g.au))).1=tk:=⟨_,rfl⟩
  rw [htk] at h1⊢;have hlen:=Fz h1;simp only [dA] at hlen;have:=zh Rk g.nodes
  have:=zh Na g.au;unfold patterns
  rw [show tk.length+1=tk.length - g.nodes.length - g.au.length - g.nodes.length - g.au.length+1+g.au.length+g.nodes.length+g.au.length+g.nodes.length by omega]
  obtain ⟨r1,e1,e2⟩:=IG g.nodes _ tk [] _ (fun n hx=>(fn n hx).good) h1
  obtain ⟨r2,e3,e4⟩:=FB g.au _ r1 _ _ (fun n hx=>(fr n hx).good) e2
  obtain ⟨r3,e5,e6⟩:=IG g.nodes _ r2 _ _ (fun n hx=>(fn n hx).good) e4
  obtain ⟨r4,e7,e8⟩:=FB g.au _ r3 _ _ (fun n hx=>(fr n hx).good) (by rw [e6,acK])
  rw [e1,e3,e5,e7];cases r4 with
  | nil=>rw [adI];simp [script]
  | cons=>cases e8
 rw [hpt];obtain ⟨n,ns,e⟩:=amL h0
 have nd:=FC (lt:=fun a b:Int=>a<b) (fun a=>aoS a) (Q8 h.good.nodes)
 have rd:=FC (lt:=fun a b:Int=>a<b) (fun a=>aoS a) (Q9 h.good.au)
 have hm:make Gr.G0 (g.nodes.map jZ ++ g.au.map kR ++ g.nodes.map jZ ++ g.au.map kR)=(Gr.G0,7):=by
  rw [acF,acF,Rh g.nodes Gr.G0 _ fn (by simpa [Gr.G0] using nd),
   Ri g.au ⟨Gr.G0.nodes ++ g.nodes,Gr.G0.au⟩ _ fr (fun n hx=>by
    obtain ⟨_,hg⟩:=h.good.au.mem hx
    exact ⟨hg.src,hg.dst⟩) (by simpa [Gr.G0] using rd)]
  have hmem:n.id∈g.nodes.map Gr.N.id:=by rw [e];simp
  have hgn:=(fn n (by rw [e];simp)).good
  have hadd:add ⟨Gr.G0.nodes ++ g.nodes,Gr.G0.au ++ g.au⟩ (jZ n)=(⟨Gr.G0.nodes ++ g.nodes,Gr.G0.au ++ g.au⟩,7):=by
   unfold add jZ;rw [ab6 (by simp)]
   unfold addNode;simp only;rw [II hgn.lo hgn.hi (by decide)]
   simp only;rw [ab7 (by exact hmem)]
  have hgm:g.nodes.map jZ ++ g.au.map kR=jZ n ::(ns.map jZ ++ g.au.map kR):=by rw [e];rfl
  rw [hgm]
  show make ⟨Gr.G0.nodes ++ g.nodes,Gr.G0.au ++ g.au⟩ (jZ n ::(ns.map jZ ++ g.au.map kR))=(Gr.G0,7)
  rw [make,hadd,ab7 (by simp)]
 simp only;rw [hm];rfl
theorem aha {g:Gr.G} (h:Fine g) {r:Gr.R} (hr:r∈g.au) (hl:(bD r ++ print g).length<=16777216):(parse (bD r ++ print g)).2=65:=by
 have fn: ∀n∈g.nodes,FD n:=fun n hx=>h.node hx
 have fr: ∀n∈g.au,FH n:=fun n hx=>h.rel hx
 have hrd:=aA.rel (fr r hr).good (aA.nodes g.nodes (fun n hx=>(fn n hx).good) (aA.au g.au (fun n hx=>(fr n hx).good) aA.nil))
 rw [acK] at hrd;rw [MZ] at hl⊢;obtain ⟨h1,h2⟩:=Rj hrd hl;unfold parse
 rw [show Lex.read (bD r ++ mJ g.nodes g.au)=Lex.read (bD r ++(List.flatMap bY g.nodes ++ List.flatMap bD g.au)) from rfl,h2]
 have hpt:patterns (Lex.read (bD r ++(List.flatMap bY g.nodes ++ List.flatMap bD g.au))).1=some (kR r ::(g.nodes.map jZ ++ g.au.map kR)):=by
  obtain ⟨tk,htk⟩: ∃tk,(Lex.read (bD r ++(List.flatMap bY g.nodes ++ List.flatMap bD g.au))).1=tk:=⟨_,rfl⟩
  rw [htk] at h1⊢;have hlen:=Fz h1;simp only [dA] at hlen;have:=zh Rk g.nodes
  have:=zh Na g.au;have:=Na r;unfold patterns
  rw [show tk.length+1=tk.length - g.nodes.length - g.au.length - 1+1+g.au.length+g.nodes.length+ [r].length by simp only [acd,adk];omega]
  obtain ⟨r0,e9,e10⟩:=FB [r] _ tk [] _ (fun n hx=>by rw [adg.1 hx];exact (fr r hr).good) (by simpa using h1)
  obtain ⟨r1,e1,e2⟩:=IG g.nodes _ r0 _ _ (fun n hx=>(fn n hx).good) e10
  obtain ⟨r2,e3,e4⟩:=FB g.au _ r1 _ _ (fun n hx=>(fr n hx).good) (by rw [e2,acK])
  rw [e9,e1,e3];cases r2 with
  | nil=>simp [script]
  | cons=>cases e4
 rw [hpt];have hg:=(fr r hr).good
 have hadd:add Gr.G0 (kR r)=(Gr.G0,65):=by
  unfold add kR;rw [ab7 rfl];unfold Bj;simp only;unfold endP
  rw [II hg.Uc hg.shi (by decide)]
  rfl
 simp only;rw [make,hadd];rfl
structure lG (t:Lex.Tok):Prop where
 num:ak.In64 t.num
 len:t.text.length<=16777216
 kind:t.kind<=5
 word:t.kind=1->t.text≠ []
theorem Zn (l:L):ak.In64 (Num.fQ l).1:=by
 by_cases h:Num.isInt l=true
 ·obtain ⟨neg,r,rfl,hg⟩:=(Num.E9 l).1 h
  rw [Num.LM hg]
  split
  ·exact ⟨by simp,by simp⟩
  rename_i ho;unfold Num.over at ho;unfold Num.qA;cases neg
  ·simp at ho⊢
   constructor<;> omega
  simp at ho⊢
  constructor<;> omega
 have h':Num.isInt l=false:=by cases e:Num.isInt l with
  | false=>rfl
  | true=>exact absurd e h
 rw [Num.PO h'];exact ⟨by simp,by simp⟩
theorem Rl: ∀(k:Nat) (r:L) (o:Nat) (b:L) {kd:Nat} {tx:L} {nm:Int} {n:Nat},Lex.dM k r o b= .tok kd tx nm n->kd=4/\nm=0/\tx.length<=b.length+r.length
 | 0,r,o,b,_,_,_,_,h=>by simp [Lex.dM] at h
 | k+1, [],o,b,_,_,_,_,h=>by simp [Lex.dM] at h
 | k+1,c :: r,o,b,kd,tx,nm,n,h=>by
  simp only [Lex.dM] at h
  split at h
  ·cases h
   exact ⟨rfl,rfl,by omega⟩
  split at h
  ·cases h
  split at h
  ·split at h
   ·cases h
   have ih:=Rl k _ _ _ h;simp only [dA,acd,adk,acM] at ih⊢;exact ⟨ih.1,ih.2.1,by omega⟩
  have ih:=Rl k _ _ _ h;simp only [dA,acd,adk] at ih⊢;exact ⟨ih.1,ih.2.1,by omega⟩
theorem Dv:ak.In64 0:=⟨by decide,by decide⟩
theorem ahb {l:L} {kd:Nat} {tx:L} {nm:Int} {n:Nat} (h:Lex.tok1 l= .tok kd tx nm n):ak.In64 nm/\tx.length<=l.length/\kd<=5/\(kd=1->tx≠ []):=by
 cases l with
 | nil=>simp [Lex.tok1] at h
 | cons c r=>
  simp only [Lex.tok1] at h
  split at h
  ·obtain ⟨rfl,rfl,h3⟩:=Rl _ _ _ _ h
   exact ⟨Dv,by simp only [adk,acd] at h3⊢;omega,by omega,by omega⟩
  split at h
  ·rename_i hc
   cases h;refine ⟨Dv,by rw [acW];omega,by omega,fun _=> ?_⟩
   have hf:=YU ⟨c.toNat,aeE c⟩;simp only [akE] at hf;rw [Lex.yX r (hf hc).2.2.2,ali,akt]
   simp
  split at h
  ·unfold Lex.nH at h
   split at h
   ·split at h
    ·cases h
     rename_i hp;exact ⟨ak.XO (Num.Qb hp).2.1,by simp,by omega,by omega⟩
    cases h
   split at h
   ·cases h
    exact ⟨Zn _,by simp,by omega,by omega⟩
   cases h
  split at h
  ·cases h
   rename_i hc
   exact ⟨Dv,by cases r with
    | nil=>simp at hc
    | cons=>simp,by omega,by omega⟩
  split at h
  ·cases h
   exact ⟨Dv,by simp,by omega,by omega⟩
  cases h
theorem scan_ok: ∀(k:Nat) (l:L) (i:Nat),l.length<=16777216-> ∀t∈(Lex.scan k l i).1,lG t
 | 0,l,i,_,t,h=>by simp [Lex.scan] at h
 | k+1, [],i,_,t,h=>by simp [Lex.scan] at h
 | k+1,c :: r,i,hl,t,h=>by
  cases ht:Lex.tok1 (c :: r) with
  | err o e=>rw [Lex.AX (by simp) ht] at h;cases h
  | tok kd tx nm n=>
   rw [Lex.yY ht rfl] at h
   rcases adK.1 h with rfl | h
   ·have:=ahb ht
    exact ⟨this.1,by show tx.length<=_;omega,this.2.2.1,this.2.2.2⟩
   exact scan_ok k _ _ (by rw [acM];omega) t h
theorem Zo (s:L): ∀t∈(Lex.read s).1,lG t:=by
 unfold Lex.read
 split
 ·intro t h;cases h
 unfold Lex.body;exact scan_ok _ _ _ (by rw [acM];omega)
theorem Zp: ∀(k:Nat) (l:L) (i:Nat),(Lex.scan k l i).1.length<=l.length
 | 0,l,i=>by simp [Lex.scan]
 | k+1, [],i=>by simp [Lex.scan]
 | k+1,c :: r,i=>by
  cases ht:Lex.tok1 (c :: r) with
  | err o e=>rw [Lex.AX (by simp) ht];simp
  | tok kd tx nm n=>
   obtain ⟨t1,t2⟩:=Lex.Ib ht
   have ih:=Zp k ((c :: r).drop (n+Lex.gap false ((c :: r).drop n))) (i+n+Lex.gap false ((c :: r).drop n))
   rw [Lex.yY ht rfl,acd];rw [acM] at ih;omega
theorem Zq (s:L):(Lex.read s).1.length<=16777216:=by
 unfold Lex.read
 split
 ·simp
 have:=Zp (s.length+1) (s.drop (Lex.gap false s)) (0+Lex.gap false s);unfold Lex.body
 rw [acM] at this;omega
theorem IJ: ∀(k:Nat) (l:L) (i:Nat) {p e:Nat},(Lex.scan k l i).2=some (p,e)->e≠0
 | 0,l,i,p,e,h=>by simp [Lex.scan] at h
 | k+1, [],i,p,e,h=>by simp [Lex.scan] at h
 | k+1,c :: r,i,p,e,h=>by
  cases ht:Lex.tok1 (c :: r) with
  | err o e'=>
   rw [Lex.AX (by simp) ht] at h
   have:=(Lex.Qj (by simp) ht).1
   cases h;exact this
  | tok kd tx nm n=>
   rw [Lex.yY ht rfl] at h;exact IJ k _ _ h
theorem Zr {s:L} {p e:Nat} (h:(Lex.read s).2=some (p,e)):e≠0:=by
 unfold Lex.read at h
 split at h
 ·cases h;decide
 exact IJ _ _ _ h
def Tail (r l:T):Prop:= ∃p,l=p ++ r
theorem Tail.refl (l:T):Tail l l:=⟨[],rfl⟩
theorem Tail.trans {a b c:T} (h:Tail a b) (k:Tail b c):Tail a c:=by
 obtain ⟨p,rfl⟩:=h;obtain ⟨q,rfl⟩:=k;exact ⟨q ++ p,by rw [acF]⟩
theorem Tail.ok {r l:T} (h:Tail r l) (ok: ∀t∈l,lG t): ∀t∈r,lG t:=by
 obtain ⟨p,rfl⟩:=h;exact fun t ht=>ok t (alv _ ht)
theorem Tail.len {r l:T} (h:Tail r l):r.length<=l.length:=by
 obtain ⟨p,rfl⟩:=h;rw [dA];omega
theorem Tail.drop {r l:T} (h:Tail r l):r=l.drop (l.length - r.length):=by
 obtain ⟨p,rfl⟩:=h;rw [dA,alU,ak5]
theorem gJ {m:L} {l r:T} (h:mark m l=some r):Tail r l/\r.length+1=l.length:=by
 cases l with
 | nil=>simp [mark] at h
 | cons t r'=>
  rw [mark] at h
  split at h
  ·cases h
   exact ⟨⟨[t],rfl⟩,rfl⟩
  cases h
theorem zA {w:L} {l r:T} (h:jg l=some (w,r)) (ok: ∀t∈l,lG t):Tail r l/\w.length<=16777216/\r.length+1=l.length/\w≠ []:=by
 cases l with
 | nil=>simp [jg] at h
 | cons t r'=>
  rw [jg] at h
  split at h
  ·rename_i hk
   cases h;exact ⟨⟨[t],rfl⟩,(ok t (by simp)).len,rfl,(ok t (by simp)).word hk⟩
  cases h
theorem Ro {k n:Int} {t:L} {l r:T} (h:nK l=some ((k,n,t),r)) (ok: ∀t∈l,lG t):Tail r l/\1<=k/\k<=4/\ak.In64 n/\t.length<=16777216/\r.length+1=l.length:=by
 cases l with
 | nil=>simp [nK] at h
 | cons u r'=>
  have hu:=ok u (by simp)
  rw [nK] at h;have hi0:ak.In64 0:=Dv;have hi1:ak.In64 1:=⟨by decide,by decide⟩
  repeat' split at h
  all_goals first
   |(cases h;done)
   |(cases h;exact ⟨⟨[u],rfl⟩,by omega,by omega,by first | assumption | exact hu.num,by first | exact hu.len | simp,rfl⟩)
structure JB (v:ak.V):Prop where
 kin:1<=v.kind/\v.kind<=8
 num:ak.In64 v.num
 nums: ∀n∈v.nums,ak.In64 n
 tl:v.text.length<=16777216
 nl:v.nums.length<=16777216
 sl:v.texts.length<=16777216
 sz: ∀t∈v.texts,t.length<=16777216
theorem Zt {k:Int}: ∀(f:Nat) (l:T) (ns:List Int) (ts:List L) {x:List Int×List L} {r:T},elems k f l ns ts=some (x,r)->(∀t∈l,lG t)->(∀n∈ns,ak.In64 n)->(∀t∈ts,t.length<=16777216)->
  Tail r l/\(∀n∈x.1,ak.In64 n)/\(∀t∈x.2,t.length<=16777216)/\x.1.length+r.length<=ns.length+l.length/\x.2.length+r.length<=ts.length+l.length
 | 0,l,ns,ts,x,r,h,_,_,_=>by simp [elems] at h
 | f+1,l,ns,ts,x,r,h,ok,hn,ht=>by
  rw [elems] at h
  split at h
  ·cases h
  rename_i j n t r1 hs;obtain ⟨t1,-,-,q3,q4,e1⟩:=Ro hs ok
  have hn': ∀m∈(if k=4 then ns else ns ++ [n]),ak.In64 m:=fun m hm=>by
   split at hm
   ·exact hn m hm
   rcases acU.1 hm with hm | hm
   ·exact hn m hm
   rw [adg.1 hm];exact q3
  have ht': ∀m∈(if k=4 then ts ++ [t] else ts),m.length<=16777216:=fun m hm=>by
   split at hm
   ·rcases acU.1 hm with hm | hm
    ·exact ht m hm
    rw [adg.1 hm];exact q4
   exact ht m hm
  have hnl:(if k=4 then ns else ns ++ [n]).length<=ns.length+1:=by split<;> simp
  have htl:(if k=4 then ts ++ [t] else ts).length<=ts.length+1:=by split<;> simp
  split at h
  ·cases h
  split at h
  ·rename_i r' hm
   obtain ⟨t2,e2⟩:=gJ hm;cases h
   exact ⟨t2.trans t1,hn',ht',by show (if k=4 then ns else ns ++ [n]).length+_<=_;omega,by show (if k=4 then ts ++ [t] else ts).length+_<=_;omega⟩
  split at h
  ·cases h
  rename_i r' hm;obtain ⟨t2,e2⟩:=gJ hm
  obtain ⟨t3,q5,q6,q7,q8⟩:=Zt f _ _ _ h ((t2.trans t1).ok ok) hn' ht'
  exact ⟨t3.trans (t2.trans t1),q5,q6,by omega,by omega⟩
theorem Yz {w:L} (h:kindOf w≠0):1<=kindOf w/\kindOf w<=4:=by
 unfold kindOf at h⊢
 repeat' split
 all_goals first | omega |(exfalso;apply h;simp_all)
theorem Zu {v:ak.V} {l r:T} (h:qG l=some (v,r)) (ok: ∀t∈l,lG t) (hl:l.length<=16777216):Tail r l/\JB v/\r.length<l.length:=by
 unfold qG at h
 split at h
 ·cases hs:nK l with
  | none=>rw [hs] at h;cases h
  | some x=>
   obtain ⟨⟨k,n,t⟩,r1⟩:=x;rw [hs] at h;cases h;obtain ⟨t1,k1,k2,q3,q4,e1⟩:=Ro hs ok
   refine ⟨t1,⟨⟨k1,by show k<=8;omega⟩,q3,by simp,q4,by simp,by simp,by simp⟩, ?_⟩
   show r1.length<_
   omega
 rename_i r1 h1;obtain ⟨t1,e1⟩:=gJ h1
 split at h
 ·cases h
 rename_i r2 h2;obtain ⟨t2,e2⟩:=gJ h2
 split at h
 ·cases h
 rename_i w r3 h3;obtain ⟨t3,-,e3,-⟩:=zA h3 ((t2.trans t1).ok ok)
 have DX:=t3.trans (t2.trans t1)
 split at h
 ·cases h
 rename_i hk;have hkr:=Yz hk
 split at h
 ·rename_i r4 h4
  obtain ⟨t4,e4⟩:=gJ h4;cases h
  exact ⟨t4.trans DX,⟨⟨by show 1<=kindOf w+4;omega,by show kindOf w+4<=8;omega⟩,Dv,by simp,by simp,by simp,by simp,by simp⟩,by omega⟩
 cases hs:elems (kindOf w) (r3.length+1) r3 [] [] with
 | none=>rw [hs] at h;cases h
 | some x=>
  obtain ⟨⟨a,b⟩,r5⟩:=x;rw [hs] at h;cases h
  obtain ⟨t5,q1,q2,q3,q4⟩:=Zt _ _ _ _ hs (DX.ok ok) (by simp) (by simp)
  simp only [adk] at q3 q4
  refine ⟨t5.trans DX,⟨⟨by show 1<=kindOf w+4;omega,by show kindOf w+4<=8;omega⟩,Dv,q1,by simp, ?_, ?_,q2⟩, ?_⟩
  ·show a.length<=_;omega
  ·show b.length<=_;omega
  have:=t5.len
  show r5.length<_
  omega
structure sK (p:Gr.P):Prop where
 key:p.key.length<=16777216
 val:JB p.val
theorem Zv: ∀(f:Nat) (l:T) (acc:List Gr.P) {ps:List Gr.P} {r:T},xG f l acc=some (ps,r)->(∀t∈l,lG t)->l.length<=16777216->(∀p∈acc,sK p)->
  Tail r l/\(∀p∈ps,sK p)/\ps.length+r.length<=acc.length+l.length
 | 0,l,acc,ps,r,h,_,_,_=>by simp [xG] at h
 | f+1,l,acc,ps,r,h,ok,hl,hp=>by
  rw [xG] at h
  split at h
  ·cases h
  rename_i k r1 h1;obtain ⟨t1,w1,e1,-⟩:=zA h1 ok
  split at h
  ·cases h
  rename_i r2 h2;obtain ⟨t2,e2⟩:=gJ h2;have t12:=t2.trans t1
  split at h
  ·cases h
  rename_i v r3 h3;obtain ⟨t3,v3,e3⟩:=Zu h3 (t12.ok ok) (by omega)
  have DX:=t3.trans t12
  have hp': ∀p∈acc ++ [⟨k,v⟩],sK p:=fun p hm=>by
   rcases acU.1 hm with hm | hm
   ·exact hp p hm
   rw [adg.1 hm];exact ⟨w1,v3⟩
  split at h
  ·rename_i r4 h4
   obtain ⟨t4,e4⟩:=gJ h4;cases h;exact ⟨t4.trans DX,hp',by rw [dA,adX];omega⟩
  split at h
  ·cases h
  rename_i r4 h4;obtain ⟨t4,e4⟩:=gJ h4
  obtain ⟨t5,q1,q2⟩:=Zv f _ _ h ((t4.trans DX).ok ok) (by omega) hp'
  rw [dA,adX] at q2;exact ⟨t5.trans (t4.trans DX),q1,by omega⟩
theorem Zw {ps:List Gr.P} {l r:T} (h:o9 l=some (ps,r)) (ok: ∀t∈l,lG t) (hl:l.length<=16777216):Tail r l/\(∀p∈ps,sK p)/\ps.length<=16777216:=by
 unfold o9 at h
 split at h
 ·cases h
  exact ⟨Tail.refl _,by simp,by simp⟩
 rename_i r1 h1;obtain ⟨t1,e1⟩:=gJ h1
 split at h
 ·rename_i r2 h2
  obtain ⟨t2,e2⟩:=gJ h2;cases h;exact ⟨t2.trans t1,by simp,by simp⟩
 obtain ⟨t2,q1,q2⟩:=Zv _ _ _ h (t1.ok ok) (by omega) (by simp)
 simp only [adk] at q2;exact ⟨t2.trans t1,q1,by omega⟩
theorem Zx: ∀(f:Nat) (l:T) (acc:List L) {ls:List L} {r:T},rW f l acc=some (ls,r)->(∀t∈l,lG t)->(∀x∈acc,x.length<=16777216)->
  Tail r l/\(∀x∈ls,x.length<=16777216)/\ls.length+r.length<=acc.length+l.length
 | 0,l,acc,ls,r,h,_,_=>by simp [rW] at h
 | f+1,l,acc,ls,r,h,ok,hp=>by
  rw [rW] at h
  split at h
  ·cases h
   exact ⟨Tail.refl _,hp,by omega⟩
  rename_i r1 h1;obtain ⟨t1,e1⟩:=gJ h1
  split at h
  ·cases h
  rename_i w r2 h2;obtain ⟨t2,w2,e2,n2⟩:=zA h2 (t1.ok ok)
  obtain ⟨t3,q1,q2⟩:=Zx f _ _ h ((t2.trans t1).ok ok) (fun x hm=>by
   rcases acU.1 hm with hm | hm
   ·exact hp x hm
   rw [adg.1 hm];exact w2)
  rw [dA,adX] at q2;exact ⟨t3.trans (t2.trans t1),q1,by omega⟩
structure qH (p:aZ):Prop where
 first:p.first.length<=16777216
 word:p.word.length<=16777216
 other:p.other.length<=16777216
 nl:p.names.length<=16777216
 ns: ∀x∈p.names,x.length<=16777216
 pl:p.props.length<=16777216
 ps: ∀x∈p.props,sK x
 one:p.rel=true-> ∃x,p.names= [x]
 rw_:p.rel=true↔p.word≠ []
theorem ahc {p:aZ} {fw:L} {l r:T} (h:Iw fw l=some (p,r)) (hf:fw.length<=16777216) (ok: ∀t∈l,lG t) (hl:l.length<=16777216):Tail r l/\qH p/\p.rel=true/\p.first=fw:=by
 unfold Iw at h
 split at h
 ·cases h
 rename_i l1 h1;obtain ⟨t1,e1⟩:=gJ h1
 split at h
 ·cases h
 rename_i w l2 h2;obtain ⟨t2,w2,e2,n2⟩:=zA h2 (t1.ok ok);have t2:=t2.trans t1
 split at h
 ·cases h
 rename_i l3 h3;obtain ⟨t3,e3⟩:=gJ h3;have t3:=t3.trans t2
 split at h
 ·cases h
 rename_i ty l4 h4;obtain ⟨t4,w4,e4,-⟩:=zA h4 (t3.ok ok);have t4:=t4.trans t3
 split at h
 ·cases h
 rename_i ps l5 h5;obtain ⟨t5,q1,q2⟩:=Zw h5 (t4.ok ok) (by omega)
 have t5:=t5.trans t4
 split at h
 ·cases h
 rename_i l6 h6;obtain ⟨t6,e6⟩:=gJ h6;have t6:=t6.trans t5
 split at h
 ·cases h
 rename_i l7 h7;obtain ⟨t7,e7⟩:=gJ h7;have t7:=t7.trans t6
 split at h
 ·cases h
 rename_i l8 h8;obtain ⟨t8,e8⟩:=gJ h8;have t8:=t8.trans t7
 split at h
 ·cases h
 rename_i o l9 h9;obtain ⟨t9,w9,e9,-⟩:=zA h9 (t8.ok ok);have t9:=t9.trans t8
 cases hm:mark [41] l9 with
 | none=>rw [hm] at h;cases h
 | some l10=>
  rw [hm] at h;cases h;obtain ⟨t10,e10⟩:=gJ hm
  exact ⟨t10.trans t9,⟨hf,w2,w9,by simp,fun x hx=>by rw [adg.1 hx];exact w4,q2,q1,fun _=>⟨ty,rfl⟩,by simp [n2]⟩,rfl,rfl⟩
theorem Zy {p:aZ} {l r:T} (h:rX l=some (p,r)) (ok: ∀t∈l,lG t) (hl:l.length<=16777216):Tail r l/\qH p/\r.length<l.length:=by
 unfold rX at h
 split at h
 ·cases h
 rename_i l1 h1;obtain ⟨t1,e1⟩:=gJ h1
 split at h
 ·cases h
 rename_i w l2 h2;obtain ⟨t2,w2,e2,n2⟩:=zA h2 (t1.ok ok);have t2:=t2.trans t1
 split at h
 ·cases h
 rename_i ls l3 h3;obtain ⟨t3,q1,q2⟩:=Zx _ _ _ h3 (t2.ok ok) (by simp)
 have Ob:=t3.trans t2;have:=t3.len;simp only [adk] at q2
 split at h
 ·cases h
 rename_i ps l4 h4;obtain ⟨t4,q3,q4⟩:=Zw h4 (Ob.ok ok) (by omega)
 have:=t4.len;have t4:=t4.trans Ob
 split at h
 ·cases h
 rename_i l5 h5;obtain ⟨t5,e5⟩:=gJ h5;have t5:=t5.trans t4
 have hsz:qH ⟨false,w, [], [],ls,ps⟩:=⟨w2,by simp,by simp,by show ls.length<=_;omega,q1,q4,q3,fun e=>absurd e (by simp),by simp⟩
 split at h
 ·cases h
  exact ⟨t5,hsz,by omega⟩
 split at h
 ·cases h
  exact ⟨t5,hsz,by omega⟩
 rename_i l6 h6;obtain ⟨t6,e6⟩:=gJ h6
 obtain ⟨t7,q5,-⟩:=ahc h w2 ((t6.trans t5).ok ok) (by omega)
 have:=t7.len;exact ⟨t7.trans (t6.trans t5),q5,by omega⟩
theorem Zz: ∀(f:Nat) (l:T) (acc:List aZ) {ps:List aZ} {r:T},pats f l acc=some (ps,r)->(∀t∈l,lG t)->l.length<=16777216->(∀p∈acc,qH p)->
  Tail r l/\(∀p∈ps,qH p)/\ps.length+r.length<=acc.length+l.length/\r.length<l.length
 | 0,l,acc,ps,r,h,_,_,_=>by simp [pats] at h
 | f+1,l,acc,ps,r,h,ok,hl,hp=>by
  rw [pats] at h
  split at h
  ·cases h
  rename_i p r1 h1;obtain ⟨t1,p1,e1⟩:=Zy h1 ok hl
  have hp': ∀x∈acc ++ [p],qH x:=fun x hm=>by
   rcases acU.1 hm with hm | hm
   ·exact hp x hm
   rw [adg.1 hm];exact p1
  split at h
  ·rename_i r2 h2
   obtain ⟨t2,e2⟩:=gJ h2;cases h;exact ⟨t2.trans t1,hp',by rw [dA,adX];omega,by omega⟩
  split at h
  ·cases h
  rename_i r2 h2;obtain ⟨t2,e2⟩:=gJ h2
  obtain ⟨t3,q1,q2,q3⟩:=Zz f _ _ h ((t2.trans t1).ok ok) (by omega) hp'
  rw [dA,adX] at q2;exact ⟨t3.trans (t2.trans t1),q1,by omega,by omega⟩
theorem ZA: ∀(f:Nat) (l:T) (acc:List aZ) {ps:List aZ},script f l acc=some ps->(∀t∈l,lG t)->l.length<=16777216->(∀p∈acc,qH p)->
  (∀p∈ps,qH p)/\ps.length<=acc.length+l.length
 | 0,l,acc,ps,h,_,_,_=>by simp [script] at h
 | f+1, [],acc,ps,h,_,_,hp=>by
  simp only [script,ads] at h;subst h;exact ⟨hp,by omega⟩
 | f+1,t :: l,acc,ps,h,ok,hl,hp=>by
  rw [script] at h
  split at h
  ·split at h
   ·cases h
   rename_i acc' r h1;have ok': ∀t∈l,lG t:=fun x hx=>ok x (ada _ hx)
   rw [acd] at hl;obtain ⟨t1,q1,q2,q3⟩:=Zz _ _ _ h1 ok' (by omega) hp
   obtain ⟨q4,q5⟩:=ZA f _ _ h (t1.ok ok') (by omega) q1
   exact ⟨q4,by rw [acd];omega⟩
  cases h
theorem ZB {l:T} {ps:List aZ} (h:patterns l=some ps) (ok: ∀t∈l,lG t) (hl:l.length<=16777216):(∀p∈ps,qH p)/\ps.length<=l.length:=by
 have:=ZA _ _ _ h ok hl (by simp)
 simpa using this
structure Ud (n:Gr.N):Prop where
 lo:0<=n.id
 hi:n.id<1024
 ll:n.labels.length<=16777216
 ls: ∀l∈n.labels,l.length<=16777216
 pl:n.props.length<=16777216
 ps: ∀p∈n.props,sK p
structure Ue (n:Gr.R):Prop where
 lo:0<=n.id
 hi:n.id<2048
 tl:n.type.length<=16777216
 src:0<=n.src/\n.src<1024
 dst:0<=n.dst/\n.dst<1024
 pl:n.props.length<=16777216
 ps: ∀p∈n.props,sK p
structure qW (g:Gr.G):Prop where
 ns: ∀n∈g.nodes,Ud n
 rs: ∀n∈g.au,Ue n
 nd:(g.nodes.map Gr.N.id).Nodup
 rd:(g.au.map Gr.R.id).Nodup
theorem Rq {c:UInt8} {m n:Int} {w:L} (h:mX c m w=some n):0<=n/\n<m:=by
 cases w with
 | nil=>simp [mX] at h
 | cons d r=>
  simp only [mX] at h
  split at h
  ·rename_i hc
   cases h;exact hc.2.2
  cases h
theorem ZC {g:Gr.G} {w:L}:0<=(endP g w).1/\(endP g w).1<1024:=by
 unfold endP
 split
 ·exact ⟨by simp,by simp⟩
 rename_i n h;have:=Rq h
 split
 ·exact this
 exact ⟨by simp,by simp⟩
theorem IK {α:Type} {l:List α} {a:α} (h:l.Nodup) (ha:a∉l):(l ++ [a]).Nodup:=by
 rw [amB];exact ⟨h,by simp,fun x hx y hy e=>ha (by rw [adg.1 hy] at e;rw [<-e];exact hx)⟩
theorem ZE {g:Gr.G} {p:aZ} (hg:qW g) (hp:qH p):qW (add g p).1:=by
 unfold add
 split
 ·rename_i hr
  unfold Bj
  split
  ·exact hg
  split
  ·exact hg
  rename_i n hn
  split
  ·exact hg
  rename_i hid
  split
  ·exact hg
  split
  ·exact hg
  have hi:=Rq hn;refine ⟨hg.ns,fun x hx=> ?_,hg.nd, ?_⟩
  ·rcases acU.1 hx with hx | hx
   ·exact hg.rs x hx
   rw [adg.1 hx];obtain ⟨y,hy⟩:=hp.one hr;refine ⟨hi.1,hi.2, ?_,ZC,ZC,hp.pl,hp.ps⟩
   show (p.names.headD []).length<=_
   have:=hp.ns y (by rw [hy];simp)
   rw [hy];exact this
  show ((g.au ++ [_]).map Gr.R.id).Nodup
  rw [ade];exact IK hg.rd hid
 unfold addNode
 split
 ·exact hg
 rename_i n hn
 split
 ·exact hg
 rename_i hid
 split
 ·exact hg
 have hi:=Rq hn;refine ⟨fun x hx=> ?_,hg.rs, ?_,hg.rd⟩
 ·rcases acU.1 hx with hx | hx
  ·exact hg.ns x hx
  rw [adg.1 hx];exact ⟨hi.1,hi.2,hp.nl,hp.ns,hp.pl,hp.ps⟩
 show ((g.nodes ++ [_]).map Gr.N.id).Nodup
 rw [ade];exact IK hg.nd hid
theorem Rt:qW Gr.G0:=⟨by simp [Gr.G0],by simp [Gr.G0],by simp [Gr.G0],by simp [Gr.G0]⟩
theorem ZF: ∀(ps:List aZ) (g:Gr.G),qW g->(∀p∈ps,qH p)->qW (make g ps).1
 | [],g,hg,_=>hg
 | p :: ps,g,hg,hp=>by
  rw [make]
  split
  ·exact Rt
  exact ZF ps _ (ZE hg (hp p (by simp))) (fun x hx=>hp x (ada _ hx))
theorem few {l:List Int} {m:Nat} (h: ∀x∈l,0<=x/\x<m) (hd:l.Nodup):l.length<=m:=by
 have h2:(l.map Int.toNat).Nodup:=by
  unfold List.Nodup;rw [ane]
  refine List.Pairwise.imp_of_mem (fun {a b} ha hb hab e=>hab ?_) hd
  have:=h a ha;have:=h b hb;omega
 have hs:=h2.length_le_of_subset (l₂:=List.range m) fun x hx=>by
  obtain ⟨y,hy,rfl⟩:=ad5.1 hx;have:=h y hy;exact aoG.2 (by omega)
 rwa [ace,List.length_range] at hs
theorem qW.lens {g:Gr.G} (h:qW g):g.nodes.length<=1024/\g.au.length<=2048:=by
 constructor
 ·have:=few (m:=1024) (fun x hx=>by obtain ⟨n,hn,rfl⟩:=ad5.1 hx;exact ⟨(h.ns n hn).lo,(h.ns n hn).hi⟩) h.nd
  rwa [ace] at this
 have:=few (m:=2048) (fun x hx=>by obtain ⟨n,hn,rfl⟩:=ad5.1 hx;exact ⟨(h.rs n hn).lo,(h.rs n hn).hi⟩) h.rd
 rwa [ace] at this
theorem Nb {α κ:Type} (le:κ->κ->Bool) (key:α->κ) (l:List α):(Gr.nJ le key l).Perm l:=aku _ _
theorem ZG {g:Gr.G} (h:qW g):qW (Gr.canon g):=by
 have pn:=Nb (fun a b:Int=>decide (a<=b)) Gr.N.id (g.nodes.map Gr.rU)
 have pr:=Nb (fun a b:Int=>decide (a<=b)) Gr.R.id (g.au.map Gr.vK)
 have pp:=fun ps:List Gr.P=>Nb (fun a b:L=>decide (a<=b)) Gr.P.key ps
 refine ⟨fun n hn=> ?_,fun n hn=> ?_, ?_, ?_⟩
 ·obtain ⟨m,hm,rfl⟩:=ad5.1 (pn.mem_iff.1 hn)
  have hz:=h.ns m hm;have pl:=Nb (fun a b:L=>decide (a<=b)) id m.labels
  exact ⟨hz.lo,hz.hi,ab5 (Nat.le_of_eq pl.length_eq) hz.ll,fun l hl=>hz.ls l (pl.mem_iff.1 hl),
   ab5 (Nat.le_of_eq (pp m.props).length_eq) hz.pl,fun p hp=>hz.ps p ((pp m.props).mem_iff.1 hp)⟩
 ·obtain ⟨m,hm,rfl⟩:=ad5.1 (pr.mem_iff.1 hn)
  have hz:=h.rs m hm
  exact ⟨hz.lo,hz.hi,hz.tl,hz.src,hz.dst,ab5 (Nat.le_of_eq (pp m.props).length_eq) hz.pl,fun p hp=>hz.ps p ((pp m.props).mem_iff.1 hp)⟩
 ·refine (pn.map Gr.N.id).nodup_iff.2 ?_
  rw [aez];exact h.nd
 refine (pr.map Gr.R.id).nodup_iff.2 ?_;rw [aez];exact h.rd
theorem ahd {s:L} {g:Gr.G} {e:Nat} (h:parse s=(g,e)):qW g/\(e=0->Fine g)/\(e≠0->g=Gr.G0):=by
 have hg0:qW Gr.G0:=Rt;unfold parse at h
 split at h
 ·rename_i p e' he
  cases h;exact ⟨hg0,fun e0=>absurd e0 (Zr he),fun _=>rfl⟩
 split at h
 ·cases h
  exact ⟨hg0,fun e0=>absurd e0 (by decide),fun _=>rfl⟩
 rename_i ps hps
 split at h
 ·rename_i hm
  cases h;exact ⟨hg0,fun e=>absurd e hm,fun _=>rfl⟩
 split at h
 ·rename_i hc
  cases h;exact ⟨hg0,fun e=>absurd e hc,fun _=>rfl⟩
 rename_i hc;cases h;have hsz:=ZG (ZF ps Gr.G0 hg0 (ZB hps (Zo s) (Zq s)).1)
 refine ⟨hsz,fun _=>⟨Gr.xJ.1 (Decidable.not_not.1 hc),fun p hp=> ?_⟩,fun e=>absurd rfl e⟩
 unfold Gr.fH at hp
 have hv:JB p.val:=by
  rcases acU.1 hp with hp | hp
  ·obtain ⟨n,hn,hq⟩:=ad1.1 hp
   exact ((hsz.ns n hn).ps p hq).val
  obtain ⟨n,hn,hq⟩:=ad1.1 hp;exact ((hsz.rs n hn).ps p hq).val
 exact ⟨hv.num,hv.nums⟩
end Go.Proofs.YtoofbflplhbpbaaGreatDoor.Cy
