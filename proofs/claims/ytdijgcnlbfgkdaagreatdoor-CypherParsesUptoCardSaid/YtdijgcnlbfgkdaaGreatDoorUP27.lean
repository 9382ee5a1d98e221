/- Lemmas. -/
import Derived.Test.YtdijgcnlbfgkdaaGreatDoorUP14
set_option maxHeartbeats 64000000
set_option maxRecDepth 1000000
set_option linter.all false
namespace Go.Proofs.YtdijgcnlbfgkdaaGreatDoor.Cy
open Go Go.Proofs.Tryz
structure Cu where
 l:T
 bad:Bool
def WG:Lex.Tok:=⟨0,[],0,0⟩
def jl (s:Cu):Lex.Tok×Cu:=if s.bad then(WG,s) else match s.l with
 |[]=>(WG,⟨[],true⟩)
 |t :: r=>(t,⟨r,false⟩)
def isC (m:L) (s:Cu):Bool:= !s.bad && match s.l with
 |[]=>false
 |t :: _=>decide (t.kind=5) && decide (t.text=m)
def fail (s:Cu):Cu:=⟨s.l,true⟩
def fE (c:Bool) (s:Cu):Cu:=if c then s else fail s
def aV (m:L) (s:Cu):Cu:=fE (decide ((jl s).1.kind=5) && decide ((jl s).1.text=m)) (jl s).2
def dA (s:Cu):L×Cu:=((jl s).1.text,fE (decide ((jl s).1.kind=1)) (jl s).2)
def qC (t:Lex.Tok):Int×Int×L:=
 if t.kind=1/\t.text=au.TRUE then(1,1,[]) else if t.kind=1/\t.text=au.FALSE then(1,0,[]) else if t.kind=2\/t.kind=3 then((t.kind:Int),t.num,[]) else(4,0,t.text)
def qE (t:Lex.Tok):Bool:=decide (t.kind=1/\t.text=au.TRUE) || decide (t.kind=1/\t.text=au.FALSE) || decide (t.kind=2\/t.kind=3) || decide (t.kind=4)
def iF (s:Cu):(Int×Int×L)×Cu:=(qC (jl s).1,fE (qE (jl s).1) (jl s).2)
def comma (c:Bool) (s:Cu):Cu:=if c then aV [44] s else s
def pG (k:Int):Nat->Cu->List Int->List L->(List Int×List L)×Cu
 |0,s,ns,ts=>((ns,ts),s)
 |f+1,s,ns,ts=>
  if s.bad || isC [93] s then((ns,ts),s) else
  let x:=iF (comma (decide (0<ns.length+ts.length)) s)
  pG k f (fE (decide (x.1.1=k)) x.2) (if k=4 then ns else ns++[x.1.2.1]) (if k=4 then ts++[x.1.2.2] else ts)
def F6 (s:Cu):au.V×Cu:=
 let w:=dA (aV [58] (aV [91] s))
 let s3:=fE (decide (kindOf w.1≠0)) w.2
 let y:=pG (kindOf w.1) (s3.l.length+1) s3 [] []
 (⟨kindOf w.1+4,0,[],y.1.1,y.1.2⟩,aV [93] y.2)
def ou (s:Cu):au.V×Cu:=if isC [91] s then F6 s else(⟨(iF s).1.1,(iF s).1.2.1,(iF s).1.2.2,[],[]⟩,(iF s).2)
def vM (c:Bool) (s:Cu):Gr.P×Cu:=
 let w:=dA (comma c s)
 let v:=ou (aV [58] w.2)
 (⟨w.1,v.1⟩,v.2)
def qF:Nat->Cu->List Gr.P->List Gr.P×Cu
 |0,s,acc=>(acc,s)
 |f+1,s,acc=>
  if s.bad || isC [125] s then(acc,s) else
  let p:=vM (decide (0<acc.length)) s
  qF f p.2 (acc++[p.1])
def kX (s:Cu):List Gr.P×Cu:=
 if isC [123] s then
  let y:=qF ((aV [123] s).l.length+1) (aV [123] s) []
  (y.1,aV [125] y.2)
 else([],s)
def Aa:T->Bool
 |a :: b :: c :: d :: _=>decide (a.text=[40]) && decide (b.kind=1) && decide (c.text=[41]) && decide (c.kind=5) && decide (d.text=[45]) && decide (d.kind=5)
 |_=>false
def qG:Nat->Cu->List L->List L×Cu
 |0,s,acc=>(acc,s)
 |f+1,s,acc=>if isC [58] s then qG f (dA (aV [58] s)).2 (acc++[(dA (aV [58] s)).1]) else(acc,s)
def relE (w0 w ty:L) (ps:List Gr.P) (s:Cu):aI×Cu:=(⟨true,w0,w,(dA (aV [40] (aV [45,62] (aV [93] s)))).1,[ty],ps⟩,aV [41] (dA (aV [40] (aV [45,62] (aV [93] s)))).2)
def I4 (w0 w:L) (x:L×Cu):aI×Cu:=relE w0 w x.1 (kX x.2).1 (kX x.2).2
def I5 (w0:L) (x:L×Cu):aI×Cu:=I4 w0 x.1 (dA (aV [58] x.2))
def F7 (w0:L) (s:Cu):aI×Cu:=I5 w0 (dA (aV [91] s))
def D6 (s:Cu):aI×Cu:=F7 (dA (aV [40] s)).1 (aV [45] (aV [41] (dA (aV [40] s)).2))
def D7 (s:Cu):aI×Cu:=
 let f:=dA (aV [40] s)
 let ls:=qG (f.2.l.length+1) f.2 []
 let ps:=kX ls.2
 (⟨false,f.1,[],[],ls.1,ps.1⟩,aV [41] ps.2)
def pI (s:Cu):aI×Cu:=if Aa s.l then D6 s else D7 s
def vN:Nat->Cu->List aI->List aI×Cu
 |0,s,acc=>(acc,s)
 |f+1,s,acc=>if isC [44] s then vN f (pI (aV [44] s)).2 (acc++[(pI (aV [44] s)).1]) else(acc,s)
def pJ:Nat->Cu->List aI->List aI×Bool
 |0,_,acc=>(acc,false)
 |f+1,s,acc=>
  if s.l=[]\/s.bad=true then(acc, !s.bad) else
  if(dA s).1≠uz then(acc,false) else
  let p:=pI (dA s).2
  let y:=vN (dA s).2.l.length p.2 (acc++[p.1])
  pJ f (aV [59] y.2) y.1
def pK {c:Bool} {s:Cu} (h:s.bad=true):(fE c s).bad=true:=by unfold fE fail;split<;>simp[h]
def VP {s:Cu} (h:s.bad=true):(jl s).2.bad=true:=by unfold jl;rw[aeu h];exact h
def bW {m:L} {s:Cu} (h:s.bad=true):(aV m s).bad=true:=pK (VP h)
def oz {s:Cu} (h:s.bad=true):(dA s).2.bad=true:=pK (VP h)
def Qu {s:Cu} (h:s.bad=true):(iF s).2.bad=true:=pK (VP h)
def D8 {m:L} {s:Cu} (h:s.bad=true):isC m s=false:=by unfold isC;rw[h];rfl
def D9 {k:Int} {s:Cu} (h:s.bad=true): ∀(f:Nat) (ns:List Int) (ts:List L),pG k f s ns ts=((ns,ts),s)
 |0,_,_=>rfl
 |f+1,ns,ts=>by rw[pG,aeu (by rw[h];rfl)]
def Ea {s:Cu} (h:s.bad=true):(ou s).2.bad=true:=by
 unfold ou;rw[D8 h];exact Qu h
def I7 {s:Cu} (h:s.bad=true): ∀(f:Nat) (acc:List Gr.P),qF f s acc=(acc,s)
 |0,_=>rfl
 |f+1,acc=>by rw[qF,aeu (by rw[h];rfl)]
def I8 {s:Cu} (h:s.bad=true):(kX s).2.bad=true:=by
 unfold kX;rw[D8 h];exact h
def I9 {s:Cu} (h:s.bad=true): ∀(f:Nat) (acc:List L),qG f s acc=(acc,s)
 |0,_=>rfl
 |f+1,acc=>by rw[qG,D8 h];rfl
def ac9 {w0 w ty:L} {ps:List Gr.P} {s:Cu} (h:s.bad=true):(relE w0 w ty ps s).2.bad=true:=by
 unfold relE;exact bW (oz (bW (bW (bW h))))
def VQ {w0 w:L} {x:L×Cu} (h:x.2.bad=true):(I4 w0 w x).2.bad=true:=by
 unfold I4;exact ac9 (I8 h)
def VR {w0:L} {x:L×Cu} (h:x.2.bad=true):(I5 w0 x).2.bad=true:=by
 unfold I5;exact VQ (oz (bW h))
def ada {w0:L} {s:Cu} (h:s.bad=true):(F7 w0 s).2.bad=true:=by
 unfold F7;exact VR (oz (bW h))
def alC {s:Cu} (h:s.bad=true):(D6 s).2.bad=true:=by
 unfold D6;exact ada (bW (bW (oz (bW h))))
def alD {s:Cu} (h:s.bad=true):(D7 s).2.bad=true:=by
 have h1:=oz (bW (m:=[40]) h);unfold D7;simp only;rw[I9 h1];exact bW (I8 h1)
def Qv {s:Cu} (h:s.bad=true):(pI s).2.bad=true:=by
 unfold pI
 split
 ·exact alC h
 exact alD h
def adb {s:Cu} (h:s.bad=true): ∀(f:Nat) (acc:List aI),vN f s acc=(acc,s)
 |0,_=>rfl
 |f+1,acc=>by rw[vN,D8 h];rfl
def VT {c:Bool} {s:Cu}:(fE c s).l=s.l:=by unfold fE fail;split<;>rfl
def VU (s:Cu):(jl s).2.bad=true\/(jl s).2.l.length<s.l.length:=by
 obtain⟨l,b⟩:=s;cases b with
 |true=>left;rfl
 |false=>
  cases l with
  |nil=>left;rfl
  |cons t r=>right;simp[jl]
def VW {c:Bool} {s u:Cu} (h:u.bad=true\/u.l.length<s.l.length):(fE c u).bad=true\/(fE c u).l.length<s.l.length:=by
 rcases h with h|h
 ·exact .inl (pK h)
 rw[VT];exact .inr h
def uF (m:L) (s:Cu):(aV m s).bad=true\/(aV m s).l.length<s.l.length:=VW (VU s)
def Ja (s:Cu):(dA s).2.bad=true\/(dA s).2.l.length<s.l.length:=VW (VU s)
def ade (s:Cu):(iF s).2.bad=true\/(iF s).2.l.length<s.l.length:=VW (VU s)
def jO {α:Type} (o:Option (α×T)) (y:α×Cu):Prop:=match o with
 |none=>y.2.bad=true
 |some (v,r)=>y=(v,⟨r,false⟩)
def fA {m:L} {l r:T} (h:mark m l=some r):aV m ⟨l,false⟩=⟨r,false⟩/\isC m ⟨l,false⟩=true:=by
 cases l with
 |nil=>cases h
 |cons t q=>
  simp only[mark]at h
  split at h
  ·rename_i hc
   cases h;simp[aV,isC,jl,fE,hc.1,hc.2]
  cases h
def jv {m:L} {l:T} (h:mark m l=none):(aV m ⟨l,false⟩).bad=true/\isC m ⟨l,false⟩=false:=by
 cases l with
 |nil=>exact⟨rfl,rfl⟩
 |cons t q=>
  simp only[mark]at h
  split at h
  ·cases h
  rename_i hc;have:(decide (t.kind=5) && decide (t.text=m))=false:=by simpa using hc
  simp[aV,isC,jl,fE,this,fail]
def wU {w:L} {l r:T} (h:dS l=some (w,r)):dA ⟨l,false⟩=(w,⟨r,false⟩):=by
 cases l with
 |nil=>cases h
 |cons t q=>
  simp only[dS]at h
  split at h
  ·rename_i hc
   cases h;simp[dA,jl,fE,hc]
  cases h
def BH {l:T} (h:dS l=none):(dA ⟨l,false⟩).2.bad=true:=by
 cases l with
 |nil=>rfl
 |cons t q=>
  simp only[dS]at h
  split at h
  ·cases h
  rename_i hc;simp[dA,jl,fE,hc,fail]
def VX (l:T):jO (mZ l) (iF ⟨l,false⟩):=by
 cases l with
 |nil=>rfl
 |cons t q=>
  obtain⟨k,x,n,p⟩:=t;unfold mZ iF jl qC qE fE fail jO;have zC:au.TRUE≠au.FALSE:=by decide
  simp only;by_cases h1:k=1
  ·subst h1
   by_cases ht:x=au.TRUE
   ·simp[ht]
   by_cases hf:x=au.FALSE
   ·simp[hf,zC.symm]
   simp[ht,hf]
  by_cases h2:k=2
  ·subst h2;simp
  by_cases h3:k=3
  ·subst h3;simp
  by_cases h4:k=4
  ·subst h4;simp
  simp[h1,h2,h3,h4]
def alE {k:Int}: ∀(f:Nat) (l:T) (ns:List Int) (ts:List L),jO (elems k (f+1) l ns ts)
  (let x:=iF ⟨l,false⟩
   let y:=pG k f (fE (decide (x.1.1=k)) x.2) (if k=4 then ns else ns++[x.1.2.1]) (if k=4 then ts++[x.1.2.2] else ts)
   (y.1,aV [93] y.2)):=by
 intro f
 induction f with
 |zero=>
  intro l ns ts;have hs:=VX l;simp only[elems,pG];cases hp:mZ l with
  |none=>
   rw[hp]at hs;exact bW (pK hs)
  |some a=>
   obtain⟨⟨j,n,t⟩,r⟩:=a;rw[hp]at hs;have hs:iF ⟨l,false⟩=_:=hs;rw[hs];simp only;by_cases hj:j=k
   ·subst hj
    simp only[ne_eq,apQ,ahp];cases hm:mark [93] r with
    |some r'=>simp[jO,fE,(fA hm).1]
    |none=>
     have:=(jv hm).1;cases mark [44] r<;>simpa[jO,fE] using this
   simp[hj,jO,fE,fail,bW]
 |succ f ih=>
  intro l ns ts;have hs:=VX l;rw[elems];cases hp:mZ l with
  |none=>
   rw[hp]at hs;simp only;rw[D9 (pK hs)];exact bW (pK hs)
  |some a=>
   obtain⟨⟨j,n,t⟩,r⟩:=a;rw[hp]at hs;have hs:iF ⟨l,false⟩=_:=hs;rw[hs];simp only;by_cases hj:j=k
   ·subst hj
    simp only[ne_eq,apQ,ahp,decide_true,fE,anN]
    have hlen:0<(if j=4 then ns else ns++[n]).length+(if j=4 then ts++[t] else ts).length:=by
     split<;>simp<;>omega
    rw[pG];cases hm:mark [93] r with
    |some r'=>
     simp[jO,(fA hm).1,(fA hm).2]
    |none=>
     simp only[(jv hm).2,aq4,afO,ahp];have hc:decide (0<(if j=4 then ns else ns++[n]).length+(if j=4 then ts++[t] else ts).length)=true:=aei hlen
     rw[hc];simp only[comma,anN];cases hk:mark [44] r with
     |none=>
      simp only;have hb:=(jv hk).1;rw[D9 (pK (Qu hb))];exact bW (pK (Qu hb))
     |some r'=>
      simp only[(fA hk).1];exact ih r' _ _
   simp only[hj,ne_eq,aqF,anN,arL,fE,afO,ahp];rw[D9 rfl];exact bW rfl
def alF {l:T} {r0:T} (h0:mark [91] l=some r0):jO (pq l) (F6 ⟨l,false⟩):=by
 unfold pq F6;simp only[h0,(fA h0).1];cases h1:mark [58] r0 with
 |none=>
  have hb:=oz (jv h1).1;simp only;rw[D9 (pK hb)];exact bW (pK hb)
 |some r1=>
  simp only[(fA h1).1];cases h2:dS r1 with
  |none=>
   have hb:=BH h2;simp only;rw[D9 (pK hb)];exact bW (pK hb)
  |some a=>
   obtain⟨w,r2⟩:=a;simp only[wU h2];by_cases hk:kindOf w=0
   ·simp only[hk,anN,ne_eq,apQ,arL,fE,afO,ahp]
    rw[D9 rfl];exact bW rfl
   simp only[hk,ahp,ne_eq,aqF,decide_true,fE,anN];rw[pG];cases h3:mark [93] r2 with
   |some r3=>simp[jO,(fA h3).1,(fA h3).2]
   |none=>
    simp only[(jv h3).2,aq4,afO,ahp,afQ,agw,agt,arL,comma];have:=alE (k:=kindOf w) r2.length r2 [] [];cases he:elems (kindOf w) (r2.length+1) r2 [] [] with
    |none=>rw[he]at this;exact this
    |some a=>
     rw[he]at this;obtain⟨⟨x1,x2⟩,r⟩:=a;have this:_=_:=this;simp only[anM]at this;simp only[afX,jO];rw[this.2];have h1:=this.1;rw[h1]
def adf (l:T):jO (pq l) (ou ⟨l,false⟩):=by
 unfold ou;cases h0:mark [91] l with
 |some r=>rw[aeu (fA h0).2];exact alF h0
 |none=>
  rw[aer (by rw[(jv h0).2];decide)]
  unfold pq;rw[h0];have hs:=VX l;cases hp:mZ l with
  |none=>rw[hp]at hs;exact hs
  |some a=>
   rw[hp]at hs;obtain⟨x,r⟩:=a;have hs:iF ⟨l,false⟩=_:=hs;simp only[afX,jO,hs]
def alG: ∀(f:Nat) (l:T) (acc:List Gr.P),jO (zQ (f+1) l acc)
  (let p:=vM false ⟨l,false⟩
   let y:=qF f p.2 (acc++[p.1])
   (y.1,aV [125] y.2)):=by
 intro f
 induction f with
 |zero=>
  intro l acc;simp only[zQ,qF,vM,comma,afO,ahp];cases h1:dS l with
  |none=>exact bW (Ea (bW (BH h1)))
  |some a=>
   obtain⟨k,r⟩:=a;simp only[wU h1];cases h2:mark [58] r with
   |none=>exact bW (Ea (jv h2).1)
   |some r2=>
    simp only[(fA h2).1];have hl:=adf r2;cases h3:pq r2 with
    |none=>rw[h3]at hl;exact bW hl
    |some a=>
     obtain⟨v,r3⟩:=a;rw[h3]at hl;have hl:ou ⟨r2,false⟩=_:=hl;simp only[hl];cases h4:mark [125] r3 with
     |some r4=>simp[jO,(fA h4).1]
     |none=>
      have:=(jv h4).1;cases mark [44] r3<;>exact this
 |succ f ih=>
  intro l acc;rw[zQ];simp only[vM,comma,afO,ahp];cases h1:dS l with
  |none=>
   have hb:=Ea (bW (m:=[58]) (BH h1));simp only;rw[I7 hb];exact bW hb
  |some a=>
   obtain⟨k,r⟩:=a;simp only[wU h1];cases h2:mark [58] r with
   |none=>
    have hb:=Ea (jv h2).1;simp only;rw[I7 hb];exact bW hb
   |some r2=>
    simp only[(fA h2).1];have hl:=adf r2;cases h3:pq r2 with
    |none=>
     rw[h3]at hl;have hb:(ou ⟨r2,false⟩).2.bad=true:=hl;simp only;rw[I7 hb];exact bW hb
    |some a=>
     obtain⟨v,r3⟩:=a;rw[h3]at hl;have hl:ou ⟨r2,false⟩=_:=hl;simp only[hl];rw[qF];cases h4:mark [125] r3 with
     |some r4=>simp[jO,(fA h4).1,(fA h4).2]
     |none=>
      simp only[(jv h4).2,aq4,afO,ahp,aeo,ae7,afQ,agO,Nat.zero_lt_succ,decide_true,vM,comma,anN];cases h5:mark [44] r3 with
      |none=>
       have hb:=Ea (bW (m:=[58]) (oz (jv h5).1));simp only;rw[I7 hb];exact bW hb
      |some r5=>
       simp only[(fA h5).1];have:=ih r5 (acc++[⟨k,v⟩]);simp only[vM,comma,afO,ahp]at this;exact this
def adg (l:T):jO (qx l) (kX ⟨l,false⟩):=by
 unfold qx kX;cases h0:mark [123] l with
 |none=>rw[aer (by rw[(jv h0).2];decide)];rfl
 |some r=>
  rw[aeu (fA h0).2];simp only[(fA h0).1];rw[qF];cases h1:mark [125] r with
  |some r1=>simp[jO,(fA h1).1,(fA h1).2]
  |none=>
   simp only[(jv h1).2,aq4,afO,ahp,afQ,agt,arL];exact alG r.length r []
def adh: ∀(f:Nat) (l:T) (acc:List L),l.length<f->jO (sU f l acc) (qG f ⟨l,false⟩ acc)
 |0,_,_,h=>by omega
 |f+1,l,acc,h=>by
  rw[sU,qG];cases h0:mark [58] l with
  |none=>rw[aer (by rw[(jv h0).2];decide)];rfl
  |some r=>
   rw[aeu (fA h0).2];simp only[(fA h0).1];cases h1:dS r with
   |none=>
    have hb:=BH h1;simp only;rw[I9 hb];exact hb
   |some a=>
    obtain⟨w,r2⟩:=a;simp only[wU h1];refine adh f r2 _ ?_
    have e1:r.length<l.length:=by
     rcases uF [58] ⟨l,false⟩ with h|h
     ·rw[(fA h0).1]at h;cases h
     rw[(fA h0).1]at h;exact h
    have e2:r2.length<r.length:=by
     rcases Ja ⟨r,false⟩ with h|h
     ·rw[wU h1]at h;cases h
     rw[wU h1]at h;exact h
    omega
def adi: ∀(f:Nat) (l:T) (acc:List L) {ls:List L} {r:T},sU f l acc=some (ls,r)->acc.length<=ls.length
 |0,_,_,_,_,h=>by cases h
 |f+1,l,acc,ls,r,h=>by
  rw[sU]at h;cases h0:Cy.mark [58] l with
  |none=>rw[h0]at h;cases h;exact aej _
  |some q=>
   rw[h0]at h;simp only at h;cases h1:dS q with
   |none=>rw[h1]at h;cases h
   |some a=>
    rw[h1]at h;have:=adi f _ _ h;rw[aeo]at this;omega
def alH (w0:L) (l:T):jO (IJ w0 l) (F7 w0 ⟨l,false⟩):=by
 simp only[IJ,F7];cases h0:mark [91] l with
 |none=>exact VR (oz (jv h0).1)
 |some l=>
 simp only[(fA h0).1];cases h0:dS l with
 |none=>exact VR (BH h0)
 |some a=>
 obtain⟨w,l⟩:=a;simp only[wU h0];simp only[I5];cases h0:mark [58] l with
 |none=>exact VQ (oz (jv h0).1)
 |some l=>
 simp only[(fA h0).1];cases h0:dS l with
 |none=>exact VQ (BH h0)
 |some a=>
 obtain⟨ty,l⟩:=a;simp only[wU h0];simp only[I4];have hp:=adg l;cases h0:qx l with
 |none=>rw[h0]at hp;exact ac9 hp
 |some a=>
 obtain⟨ps,l⟩:=a;rw[h0]at hp;simp only[show kX _=_ from hp]
 simp only[relE];cases h0:mark [93] l with
 |none=>exact bW (oz (bW (bW (jv h0).1)))
 |some l=>
 simp only[(fA h0).1];cases h0:mark [45,62] l with
 |none=>exact bW (oz (bW (jv h0).1))
 |some l=>
 simp only[(fA h0).1];cases h0:mark [40] l with
 |none=>exact bW (oz (jv h0).1)
 |some l=>
 simp only[(fA h0).1];cases h0:dS l with
 |none=>exact bW (BH h0)
 |some a=>
 obtain⟨o,l⟩:=a;simp only[wU h0];cases h0:mark [41] l with
 |none=>exact(jv h0).1
 |some r=>simp only[afX,jO,(fA h0).1]
def Lc {m:L} {l r:T} (h:Cy.mark m l=some r): ∃t,l=t :: r/\t.kind=5/\t.text=m:=by
 cases l with
 |nil=>cases h
 |cons t q=>
  simp only[Cy.mark]at h
  split at h
  ·rename_i hc;cases h;exact⟨t,rfl,hc⟩
  cases h
def alI {w:L} {l r:T} (h:dS l=some (w,r)): ∃t,l=t :: r/\t.kind=1/\t.text=w:=by
 cases l with
 |nil=>cases h
 |cons t q=>
  simp only[dS]at h
  split at h
  ·rename_i hc;cases h;exact⟨t,rfl,hc,rfl⟩
  cases h
def adk (l:T):jO (wM l) (pI ⟨l,false⟩):=by
 unfold pI;by_cases hr:Aa l=true
 ·rw[aeu hr]
  match l,hr with
  |a :: b :: c :: d :: q,hr=>
   simp only[Aa,afx,aeU]at hr;obtain⟨⟨⟨⟨⟨ha,hb⟩,hc⟩,hc5⟩,hd⟩,hd5⟩:=hr;have m41:Cy.mark [41] (c :: d :: q)=some (d :: q):=by simp only[Cy.mark];rw[aeu ⟨hc5,hc⟩]
   have m45:Cy.mark [45] (d :: q)=some q:=by simp only[Cy.mark];rw[aeu ⟨hd5,hd⟩]
   have m58:Cy.mark [58] (c :: d :: q)=none:=by simp only[Cy.mark];rw[aer (by rw[hc];simp)]
   have ao5:Cy.mark [123] (c :: d :: q)=none:=by simp only[Cy.mark];rw[aer (by rw[hc];simp)]
   have hw:dS (b :: c :: d :: q)=some (b.text,c :: d :: q):=by simp only[dS];rw[aeu hb]
   unfold wM D6;cases h0:Cy.mark [40] (a :: b :: c :: d :: q) with
   |none=>
    exact ada (bW (bW (oz (jv h0).1)))
   |some r=>
    obtain⟨t,he,-,-⟩:=Lc h0
    injection he with _ he
    subst he;simp only[(fA h0).1,hw,wU hw,sU,m58,qx,ao5,m41,(fA m41).1,m45,(fA m45).1,ae7];simp only[ne_eq,apQ,Option.isSome_none,afO,or_self,ahp];exact alH _ _
 rw[aer hr];unfold wM D7;cases h0:Cy.mark [40] l with
 |none=>
  have hb:=oz (jv h0).1;simp only;rw[I9 hb];exact bW (I8 hb)
 |some r=>
  obtain⟨t0,rfl,-,ht0⟩:=Lc h0;simp only[(fA h0).1];cases h1:dS r with
  |none=>
   have hb:=BH h1;simp only;rw[I9 hb];exact bW (I8 hb)
  |some a=>
   obtain⟨w,r1⟩:=a;obtain⟨t1,rfl,ht1,-⟩:=alI h1;simp only[wU h1];have hl:=adh (r1.length+1) r1 [] (by omega)
   cases h2:sU (r1.length+1) r1 [] with
   |none=>
    rw[h2]at hl;have hl:(qG (r1.length+1) ⟨r1,false⟩ []).2.bad=true:=hl;simp only;exact bW (I8 hl)
   |some a=>
    obtain⟨ls,r2⟩:=a;rw[h2]at hl;have hl:qG (r1.length+1) ⟨r1,false⟩ []=_:=hl;simp only[hl];have hp:=adg r2;cases h3:qx r2 with
    |none=>rw[h3]at hp;exact bW hp
    |some a=>
     obtain⟨ps,r3⟩:=a;rw[h3]at hp;have hp:kX ⟨r2,false⟩=_:=hp;simp only[hp];cases h4:Cy.mark [41] r3 with
     |none=>exact(jv h4).1
     |some r4=>
      simp only[(fA h4).1];by_cases hlab:ls≠ []\/(Cy.mark [123] r2).isSome=true
      ·rw[aeu hlab];rfl
      rw[aer hlab];have hls:ls=[]:=an3 fun h=>hlab (.inl h)
      subst hls
      have h5:Cy.mark [123] r2=none:=by
       cases h:Cy.mark [123] r2 with
       |none=>rfl
       |some x=>exact absurd (.inr (by rw[h];rfl)) hlab
      have h6:r3=r2:=by
       unfold qx at h3;rw[h5]at h3;cases h3;rfl
      subst h6
      have h7:r3=r1:=by
       rw[sU]at h2;cases h8:Cy.mark [58] r1 with
       |none=>rw[h8]at h2;cases h2;rfl
       |some q=>
        rw[h8]at h2;simp only at h2;cases h9:dS q with
        |none=>rw[h9]at h2;cases h2
        |some a=>
         rw[h9]at h2;simp only at h2;exact absurd (adi _ _ _ h2) (by simp)
      subst h7;cases h8:Cy.mark [45] r4 with
      |none=>rfl
      |some r5=>
       exfalso
       apply hr
       obtain⟨t2,rfl,ht2,hx2⟩:=Lc h4;obtain⟨t3,rfl,ht3,hx3⟩:=Lc h8;simp[Aa,ht0,ht1,ht2,hx2,ht3,hx3]
def alJ: ∀(f:Nat) (l:T) (acc:List aI),jO (pats (f+1) l acc)
  (let p:=pI ⟨l,false⟩
   let y:=vN f p.2 (acc++[p.1])
   (y.1,aV [59] y.2)):=by
 intro f
 induction f with
 |zero=>
  intro l acc;simp only[pats,vN];have hp:=adk l;cases h0:wM l with
  |none=>rw[h0]at hp;exact bW hp
  |some a=>
   obtain⟨p,r⟩:=a;rw[h0]at hp;rw[show pI ⟨l,false⟩=_ from hp]
   simp only;cases h1:Cy.mark [59] r with
   |some r1=>simp[jO,(fA h1).1]
   |none=>
    have:=(jv h1).1;cases Cy.mark [44] r<;>exact this
 |succ f ih=>
  intro l acc;rw[pats];have hp:=adk l;cases h0:wM l with
  |none=>
   rw[h0]at hp;have hp:(pI ⟨l,false⟩).2.bad=true:=hp;simp only;rw[adb hp];exact bW hp
  |some a=>
   obtain⟨p,r⟩:=a;rw[h0]at hp;rw[show pI ⟨l,false⟩=_ from hp]
   simp only;rw[vN];cases h1:Cy.mark [59] r with
   |some r1=>
    obtain⟨t,rfl,-,ht⟩:=Lc h1;have h2:isC [44] ⟨t :: r1,false⟩=false:=by simp[isC,ht]
    simp[jO,h2,(fA h1).1]
   |none=>
    cases h2:Cy.mark [44] r with
    |none=>
     simp only[(jv h2).2,afO,ahp];exact(jv h1).1
    |some r2=>
     simp only[(fA h2).2,(fA h2).1,anN];exact ih r2 _
def adl {s:Cu} (h:s.bad=true): ∀(f:Nat) (acc:List aI),(pJ f s acc).2=false
 |0,_=>rfl
 |f+1,acc=>by rw[pJ,aeu (.inr h),h];rfl
def adn: ∀(f:Nat) (l:T) (acc:List aI),match script f l acc with
  |none=>(pJ f ⟨l,false⟩ acc).2=false
  |some ps=>pJ f ⟨l,false⟩ acc=(ps,true)
 |0,_,_=>rfl
 |f+1,[],acc=>rfl
 |f+1,t :: r,acc=>by
  rw[script,pJ,aer (show¬((⟨t :: r,false⟩:Cu).l=[]\/(⟨t :: r,false⟩:Cu).bad=true) by simp)]
  by_cases hk:t.kind=1
  ·have hw:dA ⟨t :: r,false⟩=(t.text,⟨r,false⟩):=wU (by simp only[dS];rw[aeu hk])
   by_cases ht:t.text=uz
   ·rw[aeu ⟨hk,ht⟩,aer (by rw[hw];simp[ht])]
    simp only[hw];have hp:=alJ r.length r acc;cases h0:pats (r.length+1) r acc with
    |none=>
     rw[h0]at hp;exact adl hp f _
    |some a=>
     obtain⟨ps,r'⟩:=a;rw[h0]at hp;have hp:_=_:=hp;simp only[anM]at hp;simp only[hp.1,hp.2];exact adn f r' ps
   rw[aer (fun h=>ht h.2),aeu (by rw[hw];exact ht)]
  rw[aer (fun h=>hk h.1)]
  have hb:(dA ⟨t :: r,false⟩).2.bad=true:=BH (by simp only[dS];rw[aer hk])
  by_cases ht:(dA ⟨t :: r,false⟩).1=uz
  ·rw[aer (by rw[ht];simp)]
   simp only;rw[adb (Qv hb)];exact adl (bW (Qv hb)) f _
  rw[aeu ht]
def alK (l:T):match patterns l with
  |none=>(pJ (l.length+1) ⟨l,false⟩ []).2=false
  |some ps=>pJ (l.length+1) ⟨l,false⟩ []=(ps,true):=adn _ l []
end Go.Proofs.YtdijgcnlbfgkdaaGreatDoor.Cy
namespace Go.Proofs.YtdijgcnlbfgkdaaGreatDoor
open Go.RowKit Go.Proofs.Tryz
variable {q:Nat}
attribute [local go_sem] ar4
structure CS (q b:Nat) (s:Cy.Cu) (w:World):Prop where
 ex: ∃A n c k ts,ak w b 131 #[.slice A n c,.int .i64 (k:Nat),.bool s.bad]/\ts.length=n/\ts.drop k=s.l/\k<=n/\n<=16777216/\Reads w b 4 A n (nC ts)
 ok: ∀t∈s.l,Cy.lS t
 tot: ∃A c v1 v2,ak w b 131 #[.slice A q c,v1,v2]
section
variable {b B:Nat} {s:Cy.Cu} {w w':World}
def CS.lt (h:CS q b s w):b<w.heap.size:=by
 obtain⟨A,n,c,k,ts,hk,-⟩:=h.ex;exact hk.lt
def CS.below (h:CS q b s w) (hb:Below B w w') (hB:b<B):CS q b s w':=by
 obtain⟨A,n,c,k,ts,hk,h1,h2,h3,h4,h5⟩:=h.ex;exact⟨⟨A,n,c,k,ts,hk.below hb hB,h1,h2,h3,h4,h5.below (hb.mono (by omega))⟩,h.ok,by obtain⟨A,c,v1,v2,ht⟩:=h.tot;exact⟨A,c,v1,v2,ht.below hb hB⟩⟩
def CS.kept (h:CS q b s w) (hb:Below w.heap.size w w'):CS q b s w':=h.below hb h.lt
def CS.fail (h:CS q b s w):(∃u,w.cell? ⟨b,2,none⟩=some u)/\w.frozen? ⟨b,2,none⟩=false/\CS q b (Cy.fail s) (w.setCell ⟨b,2,none⟩ (.bool true)):=by
 obtain⟨A,n,c,k,ts,hk,h1,h2,h3,h4,h5⟩:=h.ex;refine⟨⟨_,hk.cell 2⟩,hk.frozen 2,⟨A,n,c,k,ts, ?_,h1,h2,h3,h4,h5.below ((aoa _ w).setCell (p:=⟨b,2,none⟩) (aej b) _)⟩,h.ok,by obtain⟨A,c,v1,v2,ht⟩:=h.tot;exact⟨A,c,v1,.bool true,(ht.aG 2 (.bool true)).cast (by simp)⟩⟩
 exact(hk.aG 2 (.bool true)).cast (by simp[Cy.fail])
def CS.adv {t:Lex.Tok} {r:List Lex.Tok} (h:CS q b ⟨t :: r,false⟩ w):
  ∃k:Nat,w.cell? ⟨b,1,none⟩=some (.int .i64 (k:Nat))/\w.frozen? ⟨b,1,none⟩=false/\k<1073741824/\CS q b ⟨r,false⟩ (w.setCell ⟨b,1,none⟩ (.int .i64 ((k:Int)+1))):=by
 obtain⟨A,n,c,k,ts,hk,h1,h2,h3,h4,h5⟩:=h.ex;simp only at h2 hk
 have hkn:k<n:=by
  rcases ahi k n with hlt|hge
  ·exact hlt
  rw[af8 (by omega)]at h2;cases h2
 refine⟨k,hk.cell 1,hk.frozen 1,by omega,⟨A,n,c,k+1,ts, ?_,h1, ?_,by omega,h4, ?_⟩,fun x hx=>h.ok x (ahj _ hx),by obtain⟨A,c,v1,v2,ht⟩:=h.tot;exact⟨A,c,.int .i64 ((k:Int)+1),v2,(ht.aG 1 (.int .i64 ((k:Int)+1))).cast (by simp)⟩⟩
 ·have:=hk.aG 1 (.int .i64 ((k:Int)+1))
  simpa using this
 ·rw[afk (by omega)]at h2
  exact(aq3 h2).2
 exact h5.below ((aoa _ w).setCell (p:=⟨b,1,none⟩) (aej b) _)
def CS.alL {t:Lex.Tok} {r:List Lex.Tok} {k:Nat} (h:CS q b ⟨t :: r,false⟩ w) (ha:w.cell? ⟨b,1,none⟩=some (.int .i64 (k:Nat))):CS q b ⟨r,false⟩ (w.setCell ⟨b,1,none⟩ (.int .i64 ((k:Int)+1))):=by
 obtain⟨k',e,-,-,h'⟩:=h.adv;rw[ha]at e
 injection e with e
 injection e with _ e
 rwa [<-e]at h'
def CS.bad (h:CS q b s w):w.cell? ⟨b,2,none⟩=some (.bool s.bad):=by
 obtain⟨A,n,c,k,ts,hk,-⟩:=h.ex;exact hk.cell 2
end
def Jb (q b:Nat) (w:World) (v:Value) (s:Cy.Cu) (e:Ending) (w':World):Prop:=e=.returned v/\CS q b s w'/\w.grownBy w' (some b)
def ado (x:Nat) (h:x<=16777216):IntKind.i64.wrap (x:Int)=(x:Int):=by
 unfold IntKind.wrap;simp[IntKind.signed,IntKind.bits];omega
def Qw {b:Nat} {s:Cy.Cu} {w V:World} (hb:b<w.heap.size) (hg:w.grownBy V (some b)) (hc:CS q b s V) (x0 x1 x2 x3:Value):
  CS q b s ((((V.setCell ⟨w.heap.size,0,none⟩ x0).setCell ⟨w.heap.size,1,none⟩ x1).setCell ⟨w.heap.size,2,none⟩ x2).setCell ⟨w.heap.size,3,none⟩ x3)/\
   w.grownBy ((((V.setCell ⟨w.heap.size,0,none⟩ x0).setCell ⟨w.heap.size,1,none⟩ x1).setCell ⟨w.heap.size,2,none⟩ x2).setCell ⟨w.heap.size,3,none⟩ x3) (some b):=
 ⟨hc.below (((((aoa w.heap.size V).setCell (p:=⟨w.heap.size,0,none⟩) (aej _) x0).setCell (p:=⟨w.heap.size,1,none⟩) (aej _) x1).setCell (p:=⟨w.heap.size,2,none⟩) (aej _) x2).setCell (p:=⟨w.heap.size,3,none⟩) (aej _) x3) hb,
  mX (mX (mX (mX hg (p:=⟨w.heap.size,0,none⟩) (.inr (aej _)) x0) (p:=⟨w.heap.size,1,none⟩) (.inr (aej _)) x1) (p:=⟨w.heap.size,2,none⟩) (.inr (aej _)) x2) (p:=⟨w.heap.size,3,none⟩) (.inr (aej _)) x3⟩
def VY (b:Nat) (s:Cy.Cu) (w:World) (h:CS q b s w):
  Calls prog 111 #[.pointer (some ⟨b,0,none⟩)] w (Jb q b w (vU (Cy.jl s).1) (Cy.jl s).2):=by
 obtain⟨l,bad⟩:=s;have NU: ∀V,Below w.heap.size w V->CS q b ⟨l,true⟩ (V.setCell ⟨b,2,none⟩ (.bool true)):=fun V hV=>(h.kept hV).fail.2.2
 have hb0:=h.lt;have a2:=h.bad;have f2:=h.fail.2.1;cases bad with
 |true=>
  have HF:=ah NU;have HB:=ah hb0;clear NU h;go_enter func111,ntmps111;go_wp2_with fail
  go_quiet (fail)
  go_wp2
  exact arW (v:=.agg #[.int .i64 0,.string ⟨#[]⟩,.int .i64 0,.int .i64 0]) (by simp[results,results111,go_sem]) rfl
   ⟨rfl,Qw HB.out (mX (bV (below_drewN ((aoa _ _).alloc (aej _) _) nq) _) (.inl rfl) _) (HF.out _ (below_drewN ((aoa _ _).alloc (aej _) _) nq)) _ _ _ _⟩
 |false=>
  cases l with
  |nil=>
   obtain⟨A,n,c,k,ts,hk,h1,h2,h3,h4,h5⟩:=h.ex;have a0:w.cell? ⟨b,0,none⟩=some (.slice A n c):=hk.cell 0;have a1:w.cell? ⟨b,1,none⟩=some (.int .i64 (k:Nat)):=hk.cell 1;have hge:n<=k:=by rw[<-h1];exact aqc.1 h2
   have ao7:(n:Int)<=k:=by omega
   have HF:=ah NU;have HB:=ah hb0;clear NU h hk h1 h2 h3 h5 hge;go_enter func111,ntmps111;go_wp2_with fail
   go_quiet (fail)
   go_wp2
   exact arW (v:=.agg #[.int .i64 0,.string ⟨#[]⟩,.int .i64 0,.int .i64 0]) (by simp[results,results111,go_sem]) rfl
    ⟨rfl,Qw HB.out (mX (bV (below_drewN ((aoa _ _).alloc (aej _) _) nq) _) (.inl rfl) _) (HF.out _ (below_drewN ((aoa _ _).alloc (aej _) _) nq)) _ _ _ _⟩
  |cons t r=>
   obtain⟨A,n,c,k,ts,hk,h1,h2,h3,h4,h5⟩:=h.ex;have HN:=ah (fun(V:World) (hV:Below w.heap.size w V)=>(h.kept hV).alL ((hk.below hV hb0).cell 1))
   have hkn:k<n:=by
    rcases ahi k n with hlt|hge
    ·exact hlt
    rw[af8 (by omega)]at h2;cases h2
   have hkt:ts[k]?=some t:=by
    have:=afL (fun l=>l[0]?) h2
    simpa using this
   have a0:w.cell? ⟨b,0,none⟩=some (.slice A n c):=hk.cell 0;have a1:w.cell? ⟨b,1,none⟩=some (.int .i64 (k:Nat)):=hk.cell 1;have f1:w.frozen? ⟨b,1,none⟩=false:=hk.frozen 1;rw[<-h1]at h5;obtain⟨g,o,rfl,hg,d0,d1,d2,d3⟩:=DT h5 hkt;have fQ:(k:Int)<n:=by omega
   have hk0:(0:Int)<=k:=by omega
   have tk:((k:Int)).toNat=k:=by omega
   have hkm:(k:Int)<=16777216:=by omega
   have hgb:g≠b:=by omega
   have hgw:g<w.heap.size:=by omega
   have HB:=ah hb0;clear NU h h1 h2 h3 hkn;go_enter func111,ntmps111;go_wp2_with fail
   go_quiet (fail)
   go_upto_region 5 with fail
   obtain⟨W2,hW2⟩:=aj (((w.alloc (.cells #[.int .i64 0,.string ⟨#[]⟩,.int .i64 0,.int .i64 0] 94)).drewN nq).setCell ⟨b,1,none⟩ (.int .i64 ((k:Int)+1)));have hV:Below w.heap.size w ((w.alloc (.cells #[.int .i64 0,.string ⟨#[]⟩,.int .i64 0,.int .i64 0] 94)).drewN nq):=below_drewN ((aoa _ _).alloc (aej _) _) nq;have hS:=HN.out _ hV;have hg2:w.grownBy W2 (some b):=hW2▸mX (bV hV _) (.inl rfl) _;rw[hW2]at hS⊢;have HS:=ah hS;have HG:=ah hg2;obtain⟨A',n',c',k',ts',hk',-⟩:=hS.ex;have hkW:ak W2 b 131 #[.slice (some ⟨g,o,none⟩) n c,.int .i64 ((k:Int)+1),.bool false]:=hW2▸((hk.below hV HB.out).aG 1 (.int .i64 ((k:Int)+1))).cast (by simp)
   have e0:=hkW.cell 0;have e1:=hkW.cell 1;simp only[aeN,aev,aeQ]at e0 e1;obtain⟨g2,o2,eA,-,d0,d1,d2,d3⟩:=DT (h5.below (hW2▸(hV.mono (anu HB.out)).setCell (p:=⟨b,1,none⟩) (aej b) _)) hkt;cases eA;have hsub:(k:Int)+1 - 1=k:=by omega
   have hwr:IntKind.i64.wrap ((k:Int)+1 - 1)=(k:Int):=by rw[hsub];exact ado k (by omega)
   have hwk:IntKind.i64.wrap (k:Int)=(k:Int):=ado k (by omega)
   have hkR:ak W2 w.heap.size 94 #[.int .i64 0,.string ⟨#[]⟩,.int .i64 0,.int .i64 0]:=by
    rw[<-hW2];exact ak.far (p:=⟨b,1,none⟩) (ak.new w 94 #[.int .i64 0,.string ⟨#[]⟩,.int .i64 0,.int .i64 0]) (by have:=HB.out;simp;omega) _
   have r0:=hkR.cell 0;have r1:=hkR.cell 1;have r2:=hkR.cell 2;have r3:=hkR.cell 3;simp only[aeN,aev,aeQ]at r0 r1 r2 r3;have s0:=hkR.frozen 0;have s1:=hkR.frozen 1;have s2:=hkR.frozen 2;have s3:=hkR.frozen 3;clear hV hS hg2 hk' hkW h5 hkt hk hW2 hkR;refine abV 11 (by kernel_rfl) (by kernel_rfl) ?_
   simp only[ag7,agL,af9,afW]
   repeat (quiet_step (fail))
   refine atj ?_;rintro _ ⟨m,rfl⟩;go_wp2
   exact arW (v:=.agg #[.int .i64 (t.kind:Int),.string ⟨t.text.toArray⟩,.int .i64 t.num,.int .i64 (t.pos:Int)]) (by simp[results,results111,go_sem,r0,r1,r2,r3]) rfl
    ⟨rfl,Qw HB.out (wH HG.out m) (HS.kept (below_drewN (aoa _ _) m)) _ _ _ _⟩
def F8 (b:Nat) (z:ByteArray) (s:Cy.Cu) (w:World) (h:CS q b s w):
  Calls prog 60 #[.pointer (some ⟨b,0,none⟩),.string z] w (Jb q b w (.bool (Cy.isC z.data.toList s)) s):=by
 obtain⟨l,bad⟩:=s;have a2:=h.bad;have HS:=ah h;cases bad with
 |true=>
  clear h;go_enter func60,ntmps60;go_wp2_with fail
  go_quiet (fail)
  go_wp2;go_ret;exact⟨rfl,HS.kept (below_drewN (aoa _ _) nq),bV (below_drewN (aoa _ _) nq) _⟩
 |false=>
  obtain⟨A,n,c,k,ts,hk,h1,h2,h3,h4,h5⟩:=h.ex;have a0:w.cell? ⟨b,0,none⟩=some (.slice A n c):=hk.cell 0;have a1:w.cell? ⟨b,1,none⟩=some (.int .i64 (k:Nat)):=hk.cell 1;cases l with
  |nil=>
   have hge:n<=k:=by rw[<-h1];exact aqc.1 h2
   have ao7:(n:Int)<=k:=by omega
   clear h hk h1 h2 h3 h5 hge;go_enter func60,ntmps60;go_wp2_with fail
   go_quiet (fail)
   go_wp2;go_ret;exact⟨rfl,HS.kept (below_drewN (aoa _ _) nq),bV (below_drewN (aoa _ _) nq) _⟩
  |cons t r=>
   have hkn:k<n:=by
    rcases ahi k n with hlt|hge
    ·exact hlt
    rw[af8 (by omega)]at h2;cases h2
   have hkt:ts[k]?=some t:=by
    have:=afL (fun l=>l[0]?) h2
    simpa using this
   rw[<-h1]at h5;obtain⟨g,o,rfl,hg,d0,d1,d2,d3⟩:=DT h5 hkt;obtain⟨zt,aK⟩:=aj (⟨t.text.toArray⟩:ByteArray);rw[aK]at d1;have fQ:(k:Int)<n:=by omega
   have hk0:(0:Int)<=k:=by omega
   have tk:((k:Int)).toNat=k:=by omega
   have hkm:(k:Int)<=16777216:=by omega
   obtain⟨b5,hb5⟩:=aj (decide (t.kind=5));obtain⟨bz,hbz⟩:=aj (decide (t.text=z.data.toList));have hres:Cy.isC z.data.toList ⟨t :: r,false⟩=(b5 && bz):=by unfold Cy.isC;rw[<-hb5,<-hbz];rfl
   rw[hres]
   have t5:((t.kind:Int) == 5)=b5:=by
    rw[<-hb5,afN,afc,aeU];omega
   have tz:(zt.toList == z.toList)=bz:=by
    rw[<-hbz,afN,afc,aeU,aod,aod,<-aK]
   clear h hk h1 h2 h3 h5 hkt hkn hg aK hb5 hbz hres;cases b5 with
   |true=>
    go_enter func60,ntmps60;go_wp2_with fail
    go_quiet (fail)
    go_wp2_with fail
    go_quiet (fail)
    go_wp2;go_ret;exact⟨rfl,HS.kept (below_drewN (below_drewN (aoa _ _) _) _),bV (below_drewN (below_drewN (aoa _ _) _) _) _⟩
   |false=>
    go_enter func60,ntmps60;go_wp2_with fail
    go_quiet (fail)
    go_wp2_with fail
    go_quiet (fail)
    go_wp2;go_ret;exact⟨rfl,HS.kept (below_drewN (below_drewN (aoa _ _) _) _),bV (below_drewN (below_drewN (aoa _ _) _) _) _⟩
def BI {b:Nat} {s:Cy.Cu} {w w1:World} (h:CS q b s w1) (hg:w.grownBy w1 (some b)) (t:Lex.Tok) {zt:ByteArray} (hz:(⟨t.text.toArray⟩:ByteArray)=zt) {W2:World} (hW:w1.alloc (.cells #[.int .i64 (t.kind:Int),.string zt,.int .i64 t.num,.int .i64 (t.pos:Int)] 94)=W2):
  CS q b s W2/\w.grownBy W2 (some b)/\ak W2 w1.heap.size 94 #[.int .i64 (t.kind:Int),.string zt,.int .i64 t.num,.int .i64 (t.pos:Int)]:=by
 rw[<-hW];exact⟨h.kept ((aoa _ _).alloc (aej _) _),aS hg (bV ((aoa _ _).alloc (aej _) _) _),ak.new _ _ _⟩
def jP (b:Nat) (z:ByteArray) (s:Cy.Cu) (w:World) (h:CS q b s w):
  Calls prog 61 #[.pointer (some ⟨b,0,none⟩),.string z] w (Jb q b w (.tuple #[]) (Cy.aV z.data.toList s)):=by
 have HX:=ah (VY b s w h);obtain⟨s1,hs1⟩:=aj ((Cy.jl s).2);obtain⟨t,ht⟩:=aj ((Cy.jl s).1);have hm:Cy.aV z.data.toList s=Cy.fE (decide (t.kind=5) && decide (t.text=z.data.toList)) s1:=by unfold Cy.aV;rw[hs1,ht]
 rw[hm];rw[hs1,ht]at HX;unfold vU at HX;obtain⟨zt,aK⟩:=aj (⟨t.text.toArray⟩:ByteArray);rw[aK]at HX;have nP:=ah aK;obtain⟨b5,hb5⟩:=aj (decide (t.kind=5));obtain⟨bz,hbz⟩:=aj (decide (t.text=z.data.toList));rw[hb5,hbz]
 have t5:((t.kind:Int) !=5)= !b5:=by
  rw[<-hb5,afN,afd,aom,anW];omega
 have tz:(zt.toList == z.toList)=bz:=by
  rw[<-hbz,afN,afc,aeU,aod,aod,<-aK]
 clear h aK hm hs1 ht hb5 hbz
 rcases b5 with _|_<;>rcases bz with _|_<;>simp only[Bool.not_true,Bool.not_false]at t5
 all_goals
  go_enter func61,ntmps61;go_wp2_with fail;refine tq8 HX fun w1 h1 g1=>?_;obtain⟨W2,hW2⟩:=aj (w1.alloc (.cells #[.int .i64 (t.kind:Int),.string zt,.int .i64 t.num,.int .i64 (t.pos:Int)] 94));obtain⟨c2,g2,k2⟩:=BI h1 g1 t nP.out hW2;obtain⟨⟨u0,e2⟩,f2,c3⟩:=c2.fail;have d0:=k2.cell 0;have d1:=k2.cell 1;simp only[aeN,aev,aeQ]at d0 d1;refine gq4 c2 c3 g2 hW2 fun HC2 jk HG2 HW2=>?_;clear c2 g2 k2 c3 hW2 h1 g1
  go_upto_region 1 with fail
  rw[HW2.out];clear HW2;go_wp2
  go_end0
  first
   |exact⟨rfl,jk.out,mX HG2.out (.inl rfl) _⟩
   |exact⟨rfl,HC2.out,HG2.out⟩
def BJ (b:Nat) (s:Cy.Cu) (w:World) (h:CS q b s w):
  Calls prog 58 #[.pointer (some ⟨b,0,none⟩)] w (Jb q b w (ST (Cy.dA s).1) (Cy.dA s).2):=by
 have HX:=ah (VY b s w h);obtain⟨s1,hs1⟩:=aj ((Cy.jl s).2);obtain⟨t,ht⟩:=aj ((Cy.jl s).1);have hm:Cy.dA s=(t.text,Cy.fE (decide (t.kind=1)) s1):=by unfold Cy.dA;rw[hs1,ht]
 rw[hm];rw[hs1,ht]at HX;unfold vU at HX;unfold ST;obtain⟨zt,aK⟩:=aj (⟨t.text.toArray⟩:ByteArray);rw[aK]at HX;simp only[aK];have nP:=ah aK;obtain⟨b5,hb5⟩:=aj (decide (t.kind=1));rw[hb5]
 have t5:((t.kind:Int) !=1)= !b5:=by
  rw[<-hb5,afN,afd,aom,anW];omega
 clear h aK hm hs1 ht hb5
 rcases b5 with _|_<;>simp only[Bool.not_true,Bool.not_false]at t5
 all_goals
  go_enter func58,ntmps58;go_wp2_with fail;refine tq8 HX fun w1 h1 g1=>?_;obtain⟨W2,hW2⟩:=aj (w1.alloc (.cells #[.int .i64 (t.kind:Int),.string zt,.int .i64 t.num,.int .i64 (t.pos:Int)] 94));obtain⟨c2,g2,k2⟩:=BI h1 g1 t nP.out hW2;obtain⟨⟨u0,e2⟩,f2,c3⟩:=c2.fail;have hne:=agH h1.lt;have d0:=k2.cell 0;have d1:=k2.cell 1;simp only[aeN,aev,aeQ]at d0 d1;refine gq4 c2 c3 g2 hW2 fun HC2 jk HG2 HW2=>?_;clear c2 g2 k2 c3 hW2 h1 g1
  go_upto_region 2 with fail
  rw[HW2.out];clear HW2;go_wp2;go_ret
  first
   |exact⟨rfl,jk.out,mX HG2.out (.inl rfl) _⟩
   |exact⟨rfl,HC2.out,HG2.out⟩
end Go.Proofs.YtdijgcnlbfgkdaaGreatDoor
