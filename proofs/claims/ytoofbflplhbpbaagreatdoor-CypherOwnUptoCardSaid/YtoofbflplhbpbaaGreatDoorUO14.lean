/- Contracts and plain laws,part 14. -/
import Derived.Test.YtoofbflplhbpbaaGreatDoorUO13
set_option linter.all false
namespace Go.Proofs.YtoofbflplhbpbaaGreatDoor.Cy
open Go
abbrev C:=Nat×L×Int
def core (t:Lex.Tok):C:=(t.kind,t.text,t.num)
def aA (s:L) (cs:List C):Prop:= ∀i,(Lex.body s i).1.map core=cs/\(Lex.body s i).2=none
theorem aA.nil:aA [] []:=fun i=>by rw [Lex.ae9 i rfl];exact ⟨rfl,rfl⟩
theorem aA.tok {l r:L} {k:Nat} {t:L} {n:Int} {m:Nat} {cs:List C} (hg:Lex.gap false l=0) (ht:Lex.tok1 l= .tok k t n m) (hd:l.drop m=r) (h:aA r cs):aA l ((k,t,n) :: cs):=fun i=>by
 subst hd;rw [Lex.afa (l':=l) (by rw [hg];rfl) ht]
 obtain ⟨h1,h2⟩:=h (i+Lex.gap false l+m);exact ⟨by rw [adA,h1];rfl,h2⟩
theorem aA.blank {c:UInt8} {r:L} {cs:List C} (hc:Lex.blank c=true) (h:aA r cs):aA (c :: r) cs:=fun i=>by
 have h47:c≠47:=by rintro rfl;exact absurd hc (by decide)
 have hg:Lex.gap false (c :: r)=Lex.gap false r+1:=by simp only [Lex.gap];rw [ab6 (fun x=>h47 x.1),ab7 hc,ali]
 have e:Lex.body (c :: r) i=Lex.body r (i+1):=by
  unfold Lex.body;rw [hg,adU,acd,show i+(Lex.gap false r+1)=i+1+Lex.gap false r by omega]
  exact Lex.Qh _ _ _ _ (by rw [acM];omega) (by rw [acM];omega)
 rw [e];exact h _
theorem Gm {c:UInt8} {r:L} (h1:Lex.blank c=false) (h2:c≠47):Lex.gap false (c :: r)=0:=by
 simp only [Lex.gap];rw [ab6 (fun x=>h2 x.1),ab6 (by rw [h1];decide)]
def mk (c:UInt8):C:=(5, [c],0)
def ONES:L:= [40,41,123,125,91,93,58,44,59]
theorem agQ: ∀c:Fin 256,UInt8.ofNat c.val∈ONES->UInt8.ofNat c.val≠39/\Lex.isLet (UInt8.ofNat c.val)=false/\Num.aP (UInt8.ofNat c.val)=false/\UInt8.ofNat c.val≠45/\UInt8.ofNat c.val∈Lex.MARKS/\Lex.blank (UInt8.ofNat c.val)=false/\UInt8.ofNat c.val≠47:=by decide+kernel
theorem aA.mark {c:UInt8} {r:L} {cs:List C} (hc:c∈ONES) (h:aA r cs):aA (c :: r) (mk c :: cs):=by
 have hf:=agQ ⟨c.toNat,aeE c⟩;simp only [akE] at hf;obtain ⟨h1,h2,h3,h4,h5,h6,h7⟩:=hf hc
 refine aA.tok (m:=1) (Gm h6 h7) ?_ rfl h;simp only [Lex.tok1]
 rw [ab6 h1,ab6 (by rw [h2];decide),ab6 (by rw [h3];simp [h4]),ab6 (fun x=>h4 x.1),ab7 h5]
theorem aA.dash {c:UInt8} {r:L} {cs:List C} (hc:c=91) (h:aA (c :: r) cs):aA (45 :: c :: r) (mk 45 :: cs):=by
 subst hc;refine aA.tok (m:=1) (Gm (by decide) (by decide)) ?_ rfl h
 simp only [Lex.tok1]
 rw [ab6 (by decide),ab6 (by decide),ab6 (by simp;decide),ab6 (by simp),ab7 (by decide)]
theorem aA.arrow {r:L} {cs:List C} (h:aA r cs):aA (45 :: 62 :: r) ((5, [45,62],0) :: cs):=by
 refine aA.tok (m:=2) (Gm (by decide) (by decide)) ?_ rfl h
 simp only [Lex.tok1]
 rw [ab6 (by decide),ab6 (by decide),ab6 (by simp;decide),ab7 (by simp)]
theorem QU {p:UInt8->Bool}: ∀(w r:L),(∀x∈w,p x=true)->r.head?.any p=false->Lex.run p (w ++ r)=w.length
 | [], [],_,_=>rfl
 | [],c :: r,_,h=>by rw [adI,Lex.Hz r (by simpa using h)];rfl
 | c :: w,r,hw,h=>by
  rw [adV,Lex.yX _ (hw c (by simp)),QU w r (fun x hx=>hw x (ada _ hx)) h,acd,ali]
theorem YU: ∀c:Fin 256,Lex.isLet (UInt8.ofNat c.val)=true->UInt8.ofNat c.val≠39/\Lex.blank (UInt8.ofNat c.val)=false/\UInt8.ofNat c.val≠47/\Lex.bV (UInt8.ofNat c.val)=true:=by decide+kernel
theorem QV: ∀c:Fin 256,Num.aP (UInt8.ofNat c.val)=true->UInt8.ofNat c.val≠39/\Lex.blank (UInt8.ofNat c.val)=false/\UInt8.ofNat c.val≠47/\Lex.isLet (UInt8.ofNat c.val)=false/\Lex.gW (UInt8.ofNat c.val)=true/\UInt8.ofNat c.val≠120/\Lex.bV (UInt8.ofNat c.val)=true:=by decide+kernel
theorem QW {c:UInt8} (h:Lex.bV c=true):Lex.gW c=true:=by unfold Lex.gW;rw [h];rfl
def Stop (r:L):Prop:=r.head?.any Lex.gW=false
theorem Stop.word {r:L} (h:Stop r):r.head?.any Lex.bV=false:=by
 unfold Stop at h;cases r with
 | nil=>rfl
 | cons c r=>
  simp only [al6,Option.any_some] at h⊢;cases hw:Lex.bV c with
  | false=>rfl
  | true=>rw [QW hw] at h;cases h
theorem aA.word {c:UInt8} {w r:L} {cs:List C} (hc:Lex.isLet c=true) (hw: ∀x∈w,Lex.bV x=true) (hr:Stop r) (h:aA r cs):aA (c :: w ++ r) ((1,c :: w,0) :: cs):=by
 have hf:=YU ⟨c.toNat,aeE c⟩;simp only [akE] at hf;obtain ⟨h1,h2,h3,h4⟩:=hf hc
 have hrun:Lex.run Lex.bV (c ::(w ++ r))=(c :: w).length:=QU (c :: w) r (fun x hx=>(adK.1 hx).elim (fun e=>e▸h4) (hw x)) hr.word
 refine aA.tok (m:=(c :: w).length) (Gm h2 h3) ?_ (ak5 ..) h;rw [adV];simp only [Lex.tok1]
 rw [ab6 h1,ab7 hc,hrun,<-adV,alJ]
theorem aA.num {c:UInt8} {w r t:L} {k:Nat} {n:Int} {cs:List C} (hc:Num.aP c=true\/(c=45/\w.head?.any Num.aP=true)) (hw: ∀x∈w,Lex.gW x=true) (hr:Stop r)
  (hn:Lex.nH (c :: w)= .tok k t n (c :: w).length) (h:aA r cs):aA (c :: w ++ r) ((k,t,n) :: cs):=by
 have hf:=QV ⟨c.toNat,aeE c⟩;simp only [akE] at hf;have hrun:=QU w r hw hr
 have dB:c≠39:=hc.elim (fun hc=>(hf hc).1) fun hc=>by rw [hc.1];decide
 have hbl:Lex.blank c=false:=hc.elim (fun hc=>(hf hc).2.1) fun hc=>by rw [hc.1];decide
 have h47:c≠47:=hc.elim (fun hc=>(hf hc).2.2.1) fun hc=>by rw [hc.1];decide
 have hlt:Lex.isLet c=false:=hc.elim (fun hc=>(hf hc).2.2.2.1) fun hc=>by rw [hc.1];decide
 refine aA.tok (m:=(c :: w).length) (Gm hbl h47) ?_ (ak5 ..) h;rw [adV]
 simp only [Lex.tok1]
 rw [ab6 dB,ab6 (by rw [hlt];decide),ab7,hrun,ali,<-acd (a:=c),<-adV,alJ,hn]
 rcases hc with hc |⟨h45,hd⟩
 ·exact .inl hc
 refine .inr ⟨h45, ?_⟩;cases w with
 | nil=>simp at hd
 | cons d w=>simpa using hd
theorem agR {q:L} (h:q.all Num.aP=true): ∀x∈q,Lex.gW x=true:=fun x hx=>by
 have hf:=QV ⟨x.toNat,aeE x⟩;simp only [akE] at hf;exact (hf (akC.1 h x hx)).2.2.2.2.1
theorem agS {q:L} (h:q.all Num.aP=true):Lib.hasPrefix q [48,120]=false:=by
 cases hp:Lib.hasPrefix q [48,120] with
 | false=>rfl
 | true=>
  obtain ⟨r,e⟩:=(ak.Hy q [48,120]).1 hp;rw [e] at h
  exact absurd (akC.1 h 120 (by simp)) (by decide)
theorem agT {neg:Bool} {q:L} (hg:Num.Good neg q): ∃d q',q=d :: q':=by
 rcases hg.2 with ⟨d,t,e,-⟩ |⟨e,-⟩
 ·exact ⟨d,t,e⟩
 exact ⟨48, [],e⟩
theorem aA.int {n:Int} {r:L} {cs:List C} (hn:ak.In64 n) (hr:Stop r) (h:aA r cs):aA (Lib.itoa n ++ r) ((2, [],n) :: cs):=by
 obtain ⟨neg,q,e,hg,-⟩:=Num.LP n;have hp:=Num.Xw n hn.1 hn.2;have hz:=agS hg.1
 have hq:=agR hg.1
 have hh:Lex.yV (Lib.itoa n)=q:=by
  rw [e];cases neg with
  | true=>rfl
  | false=>
   unfold Lex.yV;rw [show Num.sg false ++ q=q from rfl,ab6 (Num.P7 hg)]
 have hnt:Lex.nH (Lib.itoa n)= .tok 2 [] n (Lib.itoa n).length:=by
  unfold Lex.nH;rw [hh,hz,hp];rfl
 obtain ⟨d,q',rfl⟩:=agT hg;have hd:Num.aP d=true:=akC.1 hg.1 d (by simp)
 cases neg with
 | true=>
  have e':Lib.itoa n=45 :: d :: q':=e;rw [e'] at hnt⊢
  exact aA.num (.inr ⟨rfl,by simpa using hd⟩) hq hr hnt h
 | false=>
  have e':Lib.itoa n=d :: q':=e;rw [e'] at hnt⊢
  exact aA.num (.inl hd) (fun x hx=>hq x (ada _ hx)) hr hnt h
theorem QX (n:Int) (hn:0<=n): ∀x∈Lib.itoa n,Lex.bV x=true:=by
 obtain ⟨neg,q,e,hg,-,-,hneg⟩:=Num.LP n;cases neg with
 | true=>have:=hneg.1 rfl;omega
 | false=>
  intro x hx;rw [e] at hx;have hf:=QV ⟨x.toNat,aeE x⟩;simp only [akE] at hf
  exact (hf (akC.1 hg.1 x hx)).2.2.2.2.2.2
theorem agU: ∀d:Fin 16,Lex.gW (Num.eX d.val)=true:=by decide
theorem YV: ∀(k n:Nat),∀x∈Num.hexN k n,Lex.gW x=true
 | 0,n,x,h=>by simp [Num.hexN] at h
 | k+1,n,x,h=>by
  unfold Num.hexN at h
  rcases acU.1 h with h | h
  ·exact YV k _ x h
  rw [adg.1 h];exact agU ⟨n % 16,amI _ (by decide)⟩
theorem agV (f:Nat): ∀x∈Num.nG f,Lex.gW x=true:=by
 intro x hx;unfold Num.nG at hx
 split at hx
 ·cases hx
 rcases adK.1 hx with rfl | h
 ·decide
 obtain ⟨j,e,-⟩:=Num.Hw _ (Num.hexN 13 f) rfl;exact YV 13 f x (by rw [e];exact akY _ h)
theorem agW (e:Int): ∀x∈Num.fU e,Lex.gW x=true:=by
 intro x hx;unfold Num.fU at hx
 split at hx
 ·rcases adK.1 hx with rfl | h
  ·decide
  exact QW (QX _ (by omega) x h)
 rcases adK.1 hx with rfl | h
 ·decide
 exact QW (QX _ (by omega) x h)
theorem agX (b:Nat): ∃neg q,Num.fmt b=Num.sg neg ++ 48 :: 120 :: q/\ ∀x∈q,Lex.gW x=true:=by
 unfold Num.fmt
 split
 ·exact ⟨false, [110,97,110],rfl,by decide⟩
 refine ⟨decide (9223372036854775808<=b), ?_⟩;unfold Num.eu
 split
 ·exact ⟨[105,110,102],rfl,by decide⟩
 split
 ·exact ⟨[48],by rfl,by decide⟩
 refine ⟨49 ::(Num.nG (Num.gG (b % 9223372036854775808)) ++ Num.fU (Num.fV (b % 9223372036854775808))),rfl,fun x hx=> ?_⟩
 rcases adK.1 hx with rfl | hx
 ·decide
 rcases acU.1 hx with hx | hx
 ·exact agV _ x hx
 exact agW _ x hx
theorem aA.float {b:Nat} {r:L} {cs:List C} (hb:b<18446744073709551616) (hc:Num.canon b=b) (hr:Stop r) (h:aA r cs):aA (Num.fmt b ++ r) ((3, [],ak.zG b) :: cs):=by
 obtain ⟨neg,q,e,hq⟩:=agX b;have hp:=Num.ae0 hb;rw [hc] at hp
 have hh:Lex.yV (Num.fmt b)=48 :: 120 :: q:=by
  rw [e];cases neg with
  | true=>rfl
  | false=>unfold Lex.yV;rw [ab6 (by simp [Num.sg])];rfl
 have hnt:Lex.nH (Num.fmt b)= .tok 3 [] (ak.zG b) (Num.fmt b).length:=by
  unfold Lex.nH;rw [hh,hp,ab7 ((ak.Hy (48 :: 120 :: q) [48,120]).2 ⟨q,rfl⟩)];rfl
 have hq': ∀x∈48 :: 120 :: q,Lex.gW x=true:=fun x hx=>by
  rcases adK.1 hx with rfl | hx
  ·decide
  rcases adK.1 hx with rfl | hx
  ·decide
  exact hq x hx
 cases neg with
 | true=>
  have e':Num.fmt b=45 :: 48 :: 120 :: q:=e;rw [e'] at hnt⊢
  exact aA.num (.inr ⟨rfl,by rfl⟩) hq' hr hnt h
 | false=>
  have e':Num.fmt b=48 :: 120 :: q:=e;rw [e'] at hnt⊢
  exact aA.num (.inl (by decide)) (fun x hx=>hq' x (ada _ hx)) hr hnt h
theorem aA.quote {s r:L} {cs:List C} (h:aA r cs):aA (Lex.quote s ++ r) ((4,s,0) :: cs):=by
 have hl:=Lex.afe s
 refine aA.tok (m:=(Lex.quote s).length) (Gm (by decide) (by decide)) ?_ (ak5 ..) h
 unfold Lex.quote;rw [adV];simp only [Lex.tok1,alQ]
 have:=Lex.Qk r ((s.flatMap Lex.q1 ++ [39]).length+1) ((s.flatMap Lex.q1 ++ [39] ++ r).length+1) _ _ _
  (Lex.XZ s ((s.flatMap Lex.q1 ++ [39]).length+1) 1 [] (by rw [dA,adX];omega)) (by simp only [dA];omega)
 rw [this];simp only [adI,acd,dA,adk]
 congr 1
 omega
def Seg (s:L) (t:List C):Prop:= ∀r cs,Stop r->aA r cs->aA (s ++ r) (t ++ cs)
def nM:List (List C)->List C
 | []=> []
 | [a]=>a
 | a :: b :: r=>a ++ mk 44 :: nM (b :: r)
theorem Seg.join: ∀l:List (L×List C),(∀x∈l,Seg x.1 x.2)->Seg (join [44,32] (l.map Prod.fst)) (nM (l.map Prod.snd))
 | [],_=>fun r cs _ hR=>hR
 | [a],h=>h a (by simp)
 | a :: b :: l,h=>fun r cs hs hR=>by
  have ih:=Seg.join (b :: l) (fun x hx=>h x (ada _ hx)) r cs hs hR
  have:=h a (by simp) (44 :: 32 ::(Cy.join [44,32] ((b :: l).map Prod.fst) ++ r)) _ (by rfl) (aA.mark (by decide) (aA.blank (by decide) ih))
  simp only [adA,Cy.join,nM,acF,adV,adI] at this⊢;exact this
def sJ (k n:Int) (t:L):C:=if k=1 then (1,if n=1 then ak.TRUE else ak.FALSE,0) else if k=2 then (2, [],n) else if k=3 then (3, [],n) else (4,t,0)
theorem Seg.IB {c:UInt8} {w:L} (hc:Lex.isLet c=true) (hw: ∀x∈w,Lex.bV x=true):Seg (c :: w) [(1,c :: w,0)]:=fun _ _ hs hR=>aA.word hc hw hs hR
theorem Seg.scalar {k n:Int} {t:L} (hn:ak.In64 n) (h:ak.eY k n=0):Seg (Cy.scalar k n t) [sJ k n t]:=fun r cs hs hR=>by
 unfold Cy.scalar sJ;by_cases h1:k=1
 ·rw [ab7 h1,ab7 h1]
  by_cases h2:n=1
  ·rw [ab7 h2];exact aA.word (by decide) (by decide) hs hR
  rw [ab6 h2];exact aA.word (by decide) (by decide) hs hR
 rw [ab6 h1,ab6 h1];by_cases h2:k=2
 ·rw [ab7 h2,ab7 h2];exact aA.int hn hs hR
 rw [ab6 h2,ab6 h2];by_cases h3:k=3
 ·rw [ab7 h3,ab7 h3]
  unfold ak.eY at h;rw [ab6 (fun x=>h1 x.1)] at h
  have hnb:ak.yT n=false:=by
   cases hb:ak.yT n with
   | false=>rfl
   | true=>rw [ab7 ⟨h3,hb⟩] at h;cases h
  have:=aA.float (ak.AV n) (ak.ae3 hnb) hs hR;rw [ak.ae1 hn] at this;exact this
 rw [ab6 h3,ab6 h3];exact aA.quote hR
def Bl (v:ak.V):List (L×List C):=v.nums.map (fun n=>(Cy.scalar (v.kind - 4) n [], [sJ (v.kind - 4) n []])) ++ v.texts.map (fun t=>(Cy.scalar (v.kind - 4) 0 t, [sJ (v.kind - 4) 0 t]))
theorem YW (v:ak.V):(Bl v).map Prod.fst=parts v:=by unfold Bl parts;rw [ade,aez,aez];rfl
def fD (w:L):C:=(1,w,0)
def Du (v:ak.V):List C:=if v.kind<=4 then [sJ v.kind v.num v.text] else mk 91 :: mk 58 :: fD (Cy.word (v.kind - 4)) ::(nM ((Bl v).map Prod.snd) ++ [mk 93])
structure QY (v:ak.V):Prop where
 ck:ak.check v=0
 num:ak.In64 v.num
 nums: ∀n∈v.nums,ak.In64 n
theorem Il {k:Int}: ∀{l:List Int},ak.jd k l=0-> ∀n∈l,ak.eY k n=0
 | [],_,n,h=>by cases h
 | a :: l,h0,n,h=>by
  obtain ⟨h1,h2⟩:=ak.XR h0
  rcases adK.1 h with rfl | h
  ·exact h1
  exact Il h2 n h
theorem YX {k n:Int} (h:4<=k):ak.eY k n=0:=by
 unfold ak.eY;rw [ab6 (by omega),ab6 (by omega)]
theorem YZ {k:Int}:Seg (Cy.word k) [fD (Cy.word k)]:=by
 unfold Cy.word
 repeat' split
 all_goals exact Seg.IB (by decide) (by decide)
theorem Seg.lit {v:ak.V} (h:QY v):Seg (Cy.lit v) (Du v):=fun r cs hs hR=>by
 obtain ⟨p1,p2,p3,p4,p5,p6,p7,p8⟩:=ak.yU h.ck;unfold Cy.lit Du;by_cases h4:v.kind<=4
 ·rw [ab7 h4,ab7 h4]
  refine Seg.scalar h.num ?_ r cs hs hR;by_cases h5:v.kind=4
  ·exact YX (by omega)
  rw [ab7 (by omega)] at p8;exact p8
 rw [ab6 h4,ab6 h4];rw [ab6 (by omega)] at p8
 have hj:=Seg.join (Bl v) (fun x hx=>by
  unfold Bl at hx
  rcases acU.1 hx with hx | hx
  ·obtain ⟨n,hn,rfl⟩:=ad5.1 hx
   exact Seg.scalar (h.nums n hn) (Il p8 n hn)
  obtain ⟨t,ht,rfl⟩:=ad5.1 hx;refine Seg.scalar ⟨by decide,by decide⟩ ?_
  by_cases h8:v.kind=8
  ·exact YX (by omega)
  exfalso
  apply p3
  unfold ak.Unused
  exact .inr (.inr (.inr ⟨fun e=>(by rw [e] at ht;cases ht),h8⟩)))
 rw [YW] at hj;have hend:aA (93 :: r) (mk 93 :: cs):=aA.mark (by decide) hR
 by_cases h0:parts v= []
 ·rw [ab7 h0]
  have hpp:Bl v= []:=amg.1 ((YW v).trans h0);rw [hpp]
  have:=aA.mark (c:=91) (by decide) (aA.mark (c:=58) (by decide) (YZ (k:=v.kind - 4) (93 :: r) _ (by rfl) hend))
  simpa [nM] using this
 rw [ab6 h0]
 have:=aA.mark (c:=91) (by decide) (aA.mark (c:=58) (by decide) (YZ (k:=v.kind - 4) _ _ (by rfl) (aA.blank (c:=32) (by decide) (hj (93 :: r) _ (by rfl) hend))))
 simpa using this
theorem agY {s:L} (h:Gr.dw s=true): ∃c w,s=c :: w/\Lex.isLet c=true/\ ∀x∈w,Lex.bV x=true:=by
 unfold Gr.dw at h;simp only [adr,acZ,ama] at h;obtain ⟨⟨⟨h1,-⟩,h3⟩,h4⟩:=h;cases s with
 | nil=>exact absurd rfl h1
 | cons c w=>
  refine ⟨c,w,rfl, ?_,fun x hx=>akC.1 h4 x (ada _ hx)⟩
  have:=akC.1 h4 c (by simp)
  simp only [al6,Option.any_some] at h3;unfold Lex.bV at this
  rw [h3,Bool.or_false] at this;exact this
theorem Seg.name {s:L} (h:Gr.dw s=true):Seg s [fD s]:=by
 obtain ⟨c,w,rfl,h1,h2⟩:=agY h;exact Seg.IB h1 h2
structure Bo (p:Gr.P):Prop where
 name:Gr.dw p.key=true
 val:QY p.val
def vM (p:Gr.P):List C:=fD p.key :: mk 58 :: Du p.val
def uy (ps:List Gr.P):List C:=if ps= [] then [] else mk 123 ::(nM (ps.map vM) ++ [mk 125])
theorem Seg.prop {p:Gr.P} (h:Bo p):Seg (iq p) (vM p):=fun r cs hs hR=>by
 have:=Seg.name h.name _ _ (by rfl) (aA.mark (c:=58) (by decide) (aA.blank (c:=32) (by decide) (Seg.lit h.val r cs hs hR)))
 simpa [iq,vM] using this
theorem Seg.map {ps:List Gr.P} (h: ∀p∈ps,Bo p):Seg (jL ps) (uy ps):=fun r cs hs hR=>by
 have hj:=Seg.join (ps.map fun p=>(iq p,vM p)) (fun x hx=>by obtain ⟨p,hp,rfl⟩:=ad5.1 hx;exact Seg.prop (h p hp))
 rw [aez,aez] at hj;unfold jL uy;by_cases h0:ps= []
 ·rw [ab7 h0,ab7 h0];exact hR
 rw [ab6 h0,ab6 h0]
 have:=aA.blank (c:=32) (by decide) (aA.mark (c:=123) (by decide) (hj (125 :: r) _ (by rfl) (aA.mark (c:=125) (by decide) hR)))
 simpa [ana] using this
theorem Oa {c:UInt8} {n:Int} (hc:Lex.isLet c=true) (hn:0<=n):Seg (c :: Lib.itoa n) [fD (c :: Lib.itoa n)]:=Seg.IB hc (QX n hn)
structure IC (n:Gr.N):Prop where
 lo:0<=n.id
 hi:n.id<1024
 labels: ∀l∈n.labels,Gr.dw l=true
 props: ∀p∈n.props,Bo p
structure IE (r:Gr.R):Prop where
 lo:0<=r.id
 hi:r.id<2048
 Uc:0<=r.src
 shi:r.src<1024
 dlo:0<=r.dst
 dhi:r.dst<1024
 name:Gr.dw r.type=true
 props: ∀p∈r.props,Bo p
def CR:C:=fD jM
def Bq (n:Gr.N):List C:=CR :: mk 40 :: fD (110 :: Lib.itoa n.id) ::(n.labels.flatMap (fun l=> [mk 58,fD l]) ++(uy n.props ++ [mk 41,mk 59]))
def Bv (r:Gr.R):List C:=CR :: mk 40 :: fD (110 :: Lib.itoa r.src) :: mk 41 :: mk 45 :: mk 91 :: fD (114 :: Lib.itoa r.id) :: mk 58 :: fD r.type ::(uy r.props ++ [mk 93,(5, [45,62],0),mk 40,fD (110 :: Lib.itoa r.dst),mk 41,mk 59])
theorem aA.labels: ∀(ls:List L),(∀l∈ls,Gr.dw l=true)-> ∀{r:L} {cs:List C},Stop r->aA r cs->Stop (ls.flatMap (fun l=>58 :: l) ++ r)/\aA (ls.flatMap (fun l=>58 :: l) ++ r) (ls.flatMap (fun l=> [mk 58,fD l]) ++ cs)
 | [],_,r,cs,hs,hR=>⟨hs,hR⟩
 | l :: ls,h,r,cs,hs,hR=>by
  obtain ⟨h1,h2⟩:=aA.labels ls (fun x hx=>h x (ada _ hx)) hs hR
  refine ⟨by rfl, ?_⟩
  have:=aA.mark (c:=58) (by decide) (Seg.name (h l (by simp)) _ _ h1 h2)
  simpa using this
theorem Y0 {ps:List Gr.P} {r:L} (h:Stop r):Stop (jL ps ++ r):=by
 unfold jL
 split
 ·exact h
 rfl
theorem aA.node {n:Gr.N} {r:L} {cs:List C} (h:IC n) (hR:aA r cs):aA (bY n ++ r) (Bq n ++ cs):=by
 have e1:aA (41 :: 59 :: 10 :: r) (mk 41 :: mk 59 :: cs):=aA.mark (by decide) (aA.mark (by decide) (aA.blank (by decide) hR))
 have e2:=Seg.map h.props _ _ (by rfl) e1
 obtain ⟨s3,e3⟩:=aA.labels n.labels h.labels (Y0 (by rfl)) e2
 have e4:=Oa (c:=110) (by decide) h.lo _ _ s3 e3
 have e5:=Seg.IB (c:=67) (w:= [82,69,65,84,69]) (by decide) (by decide) _ _ (by rfl) (aA.blank (c:=32) (by decide) (aA.mark (c:=40) (by decide) e4))
 simpa [bY,Bq,jM,CR,fD] using e5
theorem aA.rel {n:Gr.R} {r:L} {cs:List C} (h:IE n) (hR:aA r cs):aA (bD n ++ r) (Bv n ++ cs):=by
 have e1:aA (41 :: 59 :: 10 :: r) (mk 41 :: mk 59 :: cs):=aA.mark (by decide) (aA.mark (by decide) (aA.blank (by decide) hR))
 have e2:=Oa (c:=110) (by decide) h.dlo _ _ (by rfl) e1
 have e3:=Seg.map h.props _ _ (by rfl) (aA.mark (c:=93) (by decide) (aA.arrow (aA.mark (c:=40) (by decide) e2)))
 have e4:=Seg.name h.name _ _ (Y0 (by rfl)) e3
 have e5:=Oa (c:=114) (by decide) h.lo _ _ (by rfl) (aA.mark (c:=58) (by decide) e4)
 have e6:=Oa (c:=110) (by decide) h.Uc _ _ (by rfl) (aA.mark (c:=41) (by decide) (aA.dash rfl (aA.mark (c:=91) (by decide) e5)))
 have e7:=Seg.IB (c:=67) (w:= [82,69,65,84,69]) (by decide) (by decide) _ _ (by rfl) (aA.blank (c:=32) (by decide) (aA.mark (c:=40) (by decide) e6))
 simpa [bD,Bv,jM,CR,fD] using e7
theorem aA.nodes: ∀(ns:List Gr.N),(∀n∈ns,IC n)-> ∀{r:L} {cs:List C},aA r cs->aA (ns.flatMap bY ++ r) (ns.flatMap Bq ++ cs)
 | [],_,_,_,hR=>hR
 | n :: ns,h,r,cs,hR=>by
  have:=aA.node (h n (by simp)) (aA.nodes ns (fun x hx=>h x (ada _ hx)) hR)
  simpa using this
theorem aA.au: ∀(ns:List Gr.R),(∀n∈ns,IE n)-> ∀{r:L} {cs:List C},aA r cs->aA (ns.flatMap bD ++ r) (ns.flatMap Bv ++ cs)
 | [],_,_,_,hR=>hR
 | n :: ns,h,r,cs,hR=>by
  have:=aA.rel (h n (by simp)) (aA.au ns (fun x hx=>h x (ada _ hx)) hR)
  simpa using this
theorem jw {m:L} {n:Int} {l:T} {cs:List C} (h:l.map core=(5,m,n) :: cs): ∃r,mark m l=some r/\r.map core=cs:=by
 cases l with
 | nil=>cases h
 | cons t r=>
  rw [adA,akq] at h;obtain ⟨h1,h2⟩:=h;unfold core at h1;rw [adL,adL] at h1
  exact ⟨r,by rw [mark,ab7 ⟨h1.1,h1.2.1⟩],h2⟩
theorem rY {m:L} {c:C} {l:T} {cs:List C} (h:l.map core=c :: cs) (hne:c.1≠5\/c.2.1≠m):mark m l=none:=by
 cases l with
 | nil=>rfl
 | cons t r=>
  rw [adA,akq] at h;rw [mark,ab6];rintro ⟨h1,h2⟩;rw [<-h.1] at hne
  exact hne.elim (fun x=>x h1) (fun x=>x h2)
theorem y9 {w:L} {n:Int} {l:T} {cs:List C} (h:l.map core=(1,w,n) :: cs): ∃r,jg l=some (w,r)/\r.map core=cs:=by
 cases l with
 | nil=>cases h
 | cons t r=>
  rw [adA,akq] at h;obtain ⟨h1,h2⟩:=h;unfold core at h1;rw [adL,adL] at h1
  exact ⟨r,by rw [jg,ab7 h1.1,h1.2.1],h2⟩
structure Sc (k n:Int) (t:L):Prop where
 lo:1<=k
 hi:k<=4
 b:k=1->n=0\/n=1
 t:k≠4->t= []
 n:k=4->n=0
theorem QZ {k n:Int} {t:L} {l:T} {cs:List C} (hs:Sc k n t) (h:l.map core=sJ k n t :: cs): ∃r,nK l=some ((k,n,t),r)/\r.map core=cs:=by
 cases l with
 | nil=>cases h
 | cons u r=>
  rw [adA,akq] at h;obtain ⟨h1,h2⟩:=h;refine ⟨r, ?_,h2⟩;unfold core sJ at h1;rw [nK]
  by_cases k1:k=1
  ·subst k1
   rw [ab7 rfl,adL,adL] at h1;rw [ab7 h1.1,h1.2.1,hs.t (by decide)]
   rcases hs.b rfl with rfl | rfl
   ·rfl
   rfl
  rw [ab6 k1] at h1;by_cases k2:k=2
  ·subst k2
   rw [ab7 rfl,adL,adL] at h1;rw [ab6 (by omega),ab7 h1.1,h1.2.2,hs.t (by decide)]
  rw [ab6 k2] at h1;by_cases k3:k=3
  ·subst k3
   rw [ab7 rfl,adL,adL] at h1
   rw [ab6 (by omega),ab6 (by omega),ab7 h1.1,h1.2.2,hs.t (by decide)]
  rw [ab6 k3,adL,adL] at h1;have:=hs.lo;have:=hs.hi;obtain rfl:k=4:=by omega
  rw [ab6 (by omega),ab6 (by omega),ab6 (by omega),ab7 h1.1,h1.2.1,hs.n rfl]
theorem Q5 {k n:Int} {t:L}:(sJ k n t).1≠5:=by
 unfold sJ
 repeat' split
 all_goals simp
theorem Y3 {k:Int} (h1:1<=k) (h4:k<=4):kindOf (word k)=k:=by
 have:k=1\/k=2\/k=3\/k=4:=by omega
 rcases this with rfl | rfl | rfl | rfl<;> decide
theorem Y4 {k:Int}: ∀(xs:List (Int×L)) (f:Nat) (l:T) (ns:List Int) (ts:List L) (cs:List C),xs≠ []->xs.length<=f->(∀x∈xs,Sc k x.1 x.2)->
  l.map core=nM (xs.map fun x=> [sJ k x.1 x.2]) ++ mk 93 :: cs->
  ∃r,elems k f l ns ts=some ((if k=4 then ns else ns ++ xs.map Prod.fst,if k=4 then ts ++ xs.map Prod.snd else ts),r)/\r.map core=cs
 | [],_,_,_,_,_,h,_,_,_=>absurd rfl h
 | x :: xs,0,_,_,_,_,_,h,_,_=>by simp at h
 | [x],f+1,l,ns,ts,cs,_,_,hs,h=>by
  obtain ⟨r,h1,h2⟩:=QZ (hs x (by simp)) h
  obtain ⟨r',h3,h4⟩:=jw h2;refine ⟨r', ?_,h4⟩;rw [elems,h1];simp only [ne_eq,anb,amw]
  rw [h3];rfl
 | x :: y :: xs,f+1,l,ns,ts,cs,_,hf,hs,h=>by
  obtain ⟨r,h1,h2⟩:=QZ (hs x (by simp)) h
  obtain ⟨r',h3,h4⟩:=jw h2;have hn:=rY (m:= [93]) h2 (.inr (by decide))
  obtain ⟨r2,h5,h6⟩:=Y4 (y :: xs) f r' (if k=4 then ns else ns ++ [x.1]) (if k=4 then ts ++ [x.2] else ts) cs (by simp) (by simpa using hf) (fun z hz=>hs z (ada _ hz)) h4
  refine ⟨r2, ?_,h6⟩;rw [elems,h1];simp only [ne_eq,anb,amw];rw [hn];simp only;rw [h3]
  simp only;rw [h5];by_cases k4:k=4
  ·simp [k4]
  simp [k4]
theorem Q7: ∀l:List (List C),(∀x∈l,1<=x.length)->l.length<=(nM l).length
 | [],_=>by simp [nM]
 | [a],h=>by simpa [nM] using h a (by simp)
 | a :: b :: r,h=>by
  have:=Q7 (b :: r) fun x hx=>h x (ada _ hx)
  have:=h a (by simp)
  simp only [nM,dA,acd] at*;omega
theorem Fz {l:T} {cs:List C} (h:l.map core=cs):l.length=cs.length:=by rw [<-h,ace]
theorem Y5 {k:Int} {l:List Int} (h:ak.jd k l=0): ∀n∈l,k=1->n=0\/n=1:=fun n hn hk=>by
 have:=Il h n hn;unfold ak.eY at this;by_cases h0:n=0
 ·exact .inl h0
 by_cases h1:n=1
 ·exact .inr h1
 rw [ab7 ⟨hk,h0,h1⟩] at this;cases this
def elemsOf (v:ak.V):List (Int×L):=v.nums.map (fun n=>(n, [])) ++ v.texts.map (fun t=>(0,t))
theorem agZ (v:ak.V):(Bl v).map Prod.snd=(elemsOf v).map fun x=> [sJ (v.kind - 4) x.1 x.2]:=by
 unfold Bl elemsOf;simp only [ade,aez,ana]
theorem Y6 {v:ak.V} {l:T} {cs:List C} (hv:QY v) (h:l.map core=Du v ++ cs): ∃r,qG l=some (v,r)/\r.map core=cs:=by
 obtain ⟨p1,p2,p3,p4,p5,p6,p7,p8⟩:=ak.yU hv.ck;unfold ak.Unused at p3
 simp only [aol] at p3;obtain ⟨u1,u2,u3,u4⟩:=p3;obtain ⟨k,n,t,ns,ts⟩:=v
 simp only at p1 p2 p4 p5 p6 p7 p8 u1 u2 u3 u4;unfold Du at h;simp only at h;unfold qG
 by_cases h4:k<=4
 ·rw [ab7 h4] at h
  have hns:ns= []:=Decidable.not_not.1 fun e=>u3 ⟨e, .inl (by omega)⟩
  have hts:ts= []:=Decidable.not_not.1 fun e=>u4 ⟨e,by omega⟩
  subst hns hts
  have hsc:Sc k n t:=⟨p1,h4,fun e=>Y5 (k:=k) (l:= [n]) (by
    subst e;rw [ab7 (by decide)] at p8
    unfold ak.jd ak.jd
    rw [p8];rfl) n (by simp) e,
   fun e=>Decidable.not_not.1 fun e'=>u2 ⟨e',e⟩,fun e=>Decidable.not_not.1 fun e'=>u1 ⟨e',by omega⟩⟩
  obtain ⟨r,h1,h2⟩:=QZ hsc h;rw [rY h (.inl Q5),h1];exact ⟨r,rfl,h2⟩
 rw [ab6 h4] at h;rw [ab6 (by omega)] at p8
 obtain ⟨r1,h1,h2⟩:=jw h;obtain ⟨r2,h3,h5⟩:=jw h2;obtain ⟨r3,h6,h7⟩:=y9 h5
 have hk:=Y3 (k:=k - 4) (by omega) (by omega)
 have ht:t= []:=Decidable.not_not.1 fun e=>u2 ⟨e,by omega⟩
 have hn:n=0:=Decidable.not_not.1 fun e=>u1 ⟨e,by omega⟩
 subst ht hn;rw [h1];simp only;rw [h3];simp only;rw [h6];simp only
 rw [hk,ab6 (by omega),show k - 4+4=k by omega]
 rw [agZ] at h7
 replace h7:r3.map core=nM ((elemsOf ⟨k,0, [],ns,ts⟩).map fun x=> [sJ (k - 4) x.1 x.2]) ++ [mk 93] ++ cs:=h7
 have hboth:k=8/\ns= []\/k≠8/\ts= []:=by
  by_cases h8:k=8
  ·exact .inl ⟨h8,Decidable.not_not.1 fun e=>u3 ⟨e, .inr h8⟩⟩
  exact .inr ⟨h8,Decidable.not_not.1 fun e=>u4 ⟨e,h8⟩⟩
 by_cases h0:elemsOf ⟨k,0, [],ns,ts⟩= []
 ·rw [h0] at h7
  obtain ⟨r4,h8,h9⟩:=jw h7;unfold elemsOf at h0
  simp only [List.append_eq_nil_iff,amg] at h0;obtain ⟨rfl,rfl⟩:=h0;rw [h8]
  exact ⟨r4,rfl,h9⟩
 have hsc: ∀x∈elemsOf ⟨k,0, [],ns,ts⟩,Sc (k - 4) x.1 x.2:=fun x hx=>by
  unfold elemsOf at hx
  rcases acU.1 hx with hx | hx
  ·obtain ⟨y,hy,rfl⟩:=ad5.1 hx
   refine ⟨by omega,by omega,Y5 p8 y hy,fun _=>rfl,fun e=> ?_⟩
   rcases hboth with ⟨-,e'⟩ |⟨e',-⟩
   ·simp only at hy;rw [e'] at hy;cases hy
   omega
  obtain ⟨y,hy,rfl⟩:=ad5.1 hx
  refine ⟨by omega,by omega,fun _=> .inl rfl,fun e=> ?_,fun _=>rfl⟩
  rcases hboth with ⟨e',-⟩ |⟨-,e'⟩
  ·omega
  simp only at hy;rw [e'] at hy;cases hy
 have hmk:mark [93] r3=none:=by
  obtain ⟨x,xs,hx⟩:=amL h0;rw [hx] at h7;cases xs with
  | nil=>exact rY h7 (.inl Q5)
  | cons y xs=>exact rY h7 (.inl Q5)
 rw [hmk];simp only
 have hlen:=Q7 ((elemsOf ⟨k,0, [],ns,ts⟩).map fun x=> [sJ (k - 4) x.1 x.2]) (fun x hx=>by obtain ⟨y,-,rfl⟩:=ad5.1 hx;simp)
 have hl3:=Fz h7;rw [dA,dA] at hl3;rw [ace] at hlen
 obtain ⟨r4,h8,h9⟩:=Y4 (k:=k - 4) (elemsOf ⟨k,0, [],ns,ts⟩) (r3.length+1) r3 [] [] cs h0 (by omega) hsc (by rw [h7,acF];rfl)
 rw [h8];refine ⟨r4, ?_,h9⟩;simp only [aej,ads,adL,al7,adI]
 rcases hboth with ⟨e,rfl⟩ |⟨e,rfl⟩
 ·rw [ab7 (by omega),ab7 (by omega)]
  simp [elemsOf,ana]
 rw [ab6 (by omega),ab6 (by omega)]
 simp [elemsOf,ana]
theorem Y7: ∀(ps:List Gr.P) (f:Nat) (l:T) (acc:List Gr.P) (cs:List C),ps≠ []->ps.length<=f->(∀p∈ps,Bo p)->
  l.map core=nM (ps.map vM) ++ mk 125 :: cs-> ∃r,xG f l acc=some (acc ++ ps,r)/\r.map core=cs
 | [],_,_,_,_,h,_,_,_=>absurd rfl h
 | x :: xs,0,_,_,_,_,h,_,_=>by simp at h
 | [p],f+1,l,acc,cs,_,_,hp,h=>by
  have h':l.map core=fD p.key :: mk 58 ::(Du p.val ++ mk 125 :: cs):=by simpa [nM,vM] using h
  obtain ⟨r1,h1,h2⟩:=y9 h';obtain ⟨r2,h3,h4⟩:=jw h2
  obtain ⟨r3,h5,h6⟩:=Y6 (hp p (by simp)).val h4
  obtain ⟨r4,h7,h8⟩:=jw h6;refine ⟨r4, ?_,h8⟩;simp only [xG,h1,h3,h5,h7]
 | p :: q :: ps,f+1,l,acc,cs,_,hf,hp,h=>by
  have h':l.map core=fD p.key :: mk 58 ::(Du p.val ++ mk 44 ::(nM ((q :: ps).map vM) ++ mk 125 :: cs)):=by simpa [nM,vM] using h
  obtain ⟨r1,h1,h2⟩:=y9 h';obtain ⟨r2,h3,h4⟩:=jw h2
  obtain ⟨r3,h5,h6⟩:=Y6 (hp p (by simp)).val h4
  obtain ⟨r4,h7,h8⟩:=jw h6;have hn:=rY (m:= [125]) h6 (.inr (by decide))
  obtain ⟨r5,h9,h10⟩:=Y7 (q :: ps) f r4 (acc ++ [p]) cs (by simp) (by simpa using hf) (fun z hz=>hp z (ada _ hz)) h8
  refine ⟨r5, ?_,h10⟩;simp only [xG,h1,h3,h5,h7,hn]
  rw [show (⟨p.key,p.val⟩:Gr.P)=p from rfl,h9,acF]
  rfl
theorem Y8 {ps:List Gr.P} {l:T} {c:C} {cs:List C} (hp: ∀p∈ps,Bo p) (h:l.map core=uy ps ++ c :: cs) (hc:c.1≠5\/c.2.1≠ [123]): ∃r,o9 l=some (ps,r)/\r.map core=c :: cs:=by
 unfold uy at h;unfold o9;by_cases h0:ps= []
 ·subst h0
  rw [ab7 rfl] at h;rw [rY h hc];exact ⟨l,rfl,h⟩
 rw [ab6 h0] at h;obtain ⟨r1,h1,h2⟩:=jw h
 replace h2:r1.map core=nM (ps.map vM) ++ [mk 125] ++(c :: cs):=h2
 rw [acF] at h2
 have hn:mark [125] r1=none:=by
  obtain ⟨x,xs,hx⟩:=amL h0;subst hx;cases xs with
  | nil=>exact rY h2 (.inl (show (1:Nat)≠5 by decide))
  | cons y xs=>exact rY h2 (.inl (show (1:Nat)≠5 by decide))
 have hlen:=Q7 (ps.map vM) (fun x hx=>by obtain ⟨y,-,rfl⟩:=ad5.1 hx;simp [vM])
 have hl:=Fz h2;rw [dA] at hl;rw [ace] at hlen
 obtain ⟨r2,h3,h4⟩:=Y7 ps (r1.length+1) r1 [] (c :: cs) h0 (by omega) hp h2
 rw [h1];simp only;rw [hn];simp only;rw [h3];exact ⟨r2,rfl,h4⟩
theorem Y9: ∀(ls:List L) (f:Nat) (l:T) (acc:List L) (c:C) (cs:List C),ls.length<f->(c.1≠5\/c.2.1≠ [58])->
  l.map core=ls.flatMap (fun l=> [mk 58,fD l]) ++ c :: cs-> ∃r,rW f l acc=some (acc ++ ls,r)/\r.map core=c :: cs
 | _,0,_,_,_,_,h,_,_=>by omega
 | [],f+1,l,acc,c,cs,_,hc,h=>by
  rw [rW,rY h hc];exact ⟨l,by rw [acK],h⟩
 | x :: ls,f+1,l,acc,c,cs,hf,hc,h=>by
  obtain ⟨r1,h1,h2⟩:=jw h;obtain ⟨r2,h3,h4⟩:=y9 h2
  obtain ⟨r3,h5,h6⟩:=Y9 ls f r2 (acc ++ [x]) c cs (by simp only [acd] at hf;omega) hc h4
  refine ⟨r3, ?_,h6⟩;simp only [rW,h1,h3];rw [h5,acF];rfl
theorem ag0 (ps:List Gr.P) (c:C) (cs:List C): ∃d ds,uy ps ++ c :: cs=d :: ds/\(ps= []->d=c)/\(ps≠ []->d=mk 123):=by
 unfold uy;by_cases h:ps= []
 ·exact ⟨c,cs,by rw [ab7 h];rfl,fun _=>rfl,fun e=>absurd h e⟩
 exact ⟨mk 123,_,by rw [ab6 h];rfl,fun e=>absurd e h,fun _=>rfl⟩
def jZ (n:Gr.N):aZ:=⟨false,110 :: Lib.itoa n.id, [], [],n.labels,n.props⟩
def kR (r:Gr.R):aZ:=⟨true,110 :: Lib.itoa r.src,114 :: Lib.itoa r.id,110 :: Lib.itoa r.dst, [r.type],r.props⟩
theorem flat2 (ls:List L):(ls.flatMap (fun l=> [mk 58,fD l])).length=2*ls.length:=by
 induction ls with
 | nil=>rfl
 | cons a r ih=>rw [adz,dA,ih,acd];simp;omega
theorem ag1 {n:Gr.N} {l:T} {cs:List C} (hn:IC n) (h:CR :: l.map core=Bq n ++ cs): ∃r,rX l=some (jZ n,r)/\r.map core=mk 59 :: cs:=by
 have h':l.map core=mk 40 :: fD (110 :: Lib.itoa n.id) ::(n.labels.flatMap (fun l=> [mk 58,fD l]) ++(uy n.props ++ mk 41 :: mk 59 :: cs)):=by
  have:CR :: l.map core=CR :: mk 40 :: fD (110 :: Lib.itoa n.id) ::(n.labels.flatMap (fun l=> [mk 58,fD l]) ++(uy n.props ++ mk 41 :: mk 59 :: cs)):=by rw [h];simp [Bq]
  exact (anH this).2
 obtain ⟨r1,h1,h2⟩:=jw h';obtain ⟨r2,h3,h4⟩:=y9 h2
 obtain ⟨d,ds,e,d1,d2⟩:=ag0 n.props (mk 41) (mk 59 :: cs)
 have hd:d.1≠5\/d.2.1≠ [58]:=by
  by_cases h0:n.props= []
  ·rw [d1 h0];exact .inr (by decide)
  rw [d2 h0];exact .inr (by decide)
 have hl:=Fz h4;rw [dA,flat2] at hl
 obtain ⟨r3,h5,h6⟩:=Y9 n.labels (r2.length+1) r2 [] d ds (by omega) hd (by rw [h4,e])
 rw [<-e] at h6;obtain ⟨r4,h7,h8⟩:=Y8 hn.props h6 (.inr (by decide))
 obtain ⟨r5,h9,h10⟩:=jw h8;refine ⟨r5, ?_,h10⟩;unfold rX;simp only [h1,h3,h5,h7,h9,adI]
 have hno:mark [45] r5=none:=rY h10 (.inr (by decide))
 split
 ·rfl
 rw [hno];rfl
theorem ag2 {n:Gr.R} {l:T} {cs:List C} (hn:IE n) (h:CR :: l.map core=Bv n ++ cs): ∃r,rX l=some (kR n,r)/\r.map core=mk 59 :: cs:=by
 have h':l.map core=mk 40 :: fD (110 :: Lib.itoa n.src) :: mk 41 :: mk 45 :: mk 91 :: fD (114 :: Lib.itoa n.id) :: mk 58 :: fD n.type ::(uy n.props ++ mk 93 ::(5, [45,62],0) :: mk 40 :: fD (110 :: Lib.itoa n.dst) :: mk 41 :: mk 59 :: cs):=by
  have:CR :: l.map core=CR :: mk 40 :: fD (110 :: Lib.itoa n.src) :: mk 41 :: mk 45 :: mk 91 :: fD (114 :: Lib.itoa n.id) :: mk 58 :: fD n.type ::(uy n.props ++ mk 93 ::(5, [45,62],0) :: mk 40 :: fD (110 :: Lib.itoa n.dst) :: mk 41 :: mk 59 :: cs):=by rw [h];simp [Bv]
  exact (anH this).2
 obtain ⟨r1,h1,h2⟩:=jw h';obtain ⟨r2,h3,h4⟩:=y9 h2
 have hlb:rW (r2.length+1) r2 []=some ([],r2):=by rw [rW,rY h4 (.inr (by decide))]
 have hpr:o9 r2=some ([],r2):=by unfold o9;rw [rY h4 (.inr (by decide))]
 have hnb:mark [123] r2=none:=rY h4 (.inr (by decide))
 obtain ⟨r3,h5,h6⟩:=jw h4;obtain ⟨r4,h7,h8⟩:=jw h6;obtain ⟨r5,h9,h10⟩:=jw h8
 obtain ⟨r6,h11,h12⟩:=y9 h10;obtain ⟨r7,h13,h14⟩:=jw h12;obtain ⟨r8,h15,h16⟩:=y9 h14
 obtain ⟨r9,h17,h18⟩:=Y8 hn.props h16 (.inr (by decide))
 obtain ⟨r10,h19,h20⟩:=jw h18;obtain ⟨r11,h21,h22⟩:=jw h20;obtain ⟨r12,h23,JA⟩:=jw h22
 obtain ⟨r13,h25,h26⟩:=y9 JA;obtain ⟨r14,h27,h28⟩:=jw h26;refine ⟨r14, ?_,h28⟩;unfold rX
 simp only [h1,h3,hlb,hpr,h5,hnb,Option.isSome_none,ne_eq,anb,ak8,or_self,amw,h7]
 unfold Iw;simp only [h9,h11,h13,h15,h17,h19,h21,h23,h25,h27,aej];rfl
theorem ag3 {l:T} {p:aZ} {r:T} {cs:List C} {f:Nat} (acc:List aZ) (h:rX l=some (p,r)) (hr:r.map core=mk 59 :: cs): ∃r',pats (f+1) l acc=some (acc ++ [p],r')/\r'.map core=cs:=by
 obtain ⟨r',h1,h2⟩:=jw hr;exact ⟨r',by simp only [pats,h,h1],h2⟩
theorem Za {l:T} {p:aZ} {f:Nat} {acc:List aZ} {X cs:List C} (h:l.map core=CR :: X ++ cs) (hp: ∀l':T,CR :: l'.map core=CR :: X ++ cs-> ∃r,rX l'=some (p,r)/\r.map core=mk 59 :: cs):
  ∃r,script (f+1) l acc=script f r (acc ++ [p])/\r.map core=cs:=by
 cases l with
 | nil=>cases h
 | cons t r=>
  rw [adA,adV,akq] at h;obtain ⟨h1,h2⟩:=h;obtain ⟨r1,h3,h4⟩:=hp r (by rw [h2];rfl)
  obtain ⟨r2,h5,h6⟩:=ag3 (f:=r.length) acc h3 h4;refine ⟨r2, ?_,h6⟩
  unfold core CR fD at h1;rw [adL,adL] at h1;rw [script,ab7 ⟨h1.1,h1.2.1⟩,h5]
theorem IG: ∀(ns:List Gr.N) (f:Nat) (l:T) (acc:List aZ) (cs:List C),(∀n∈ns,IC n)->l.map core=ns.flatMap Bq ++ cs->
  ∃r,script (f+ns.length) l acc=script f r (acc ++ ns.map jZ)/\r.map core=cs
 | [],f,l,acc,cs,_,h=>⟨l,by rw [aek,acK];rfl,h⟩
 | n :: ns,f,l,acc,cs,hn,h=>by
  rw [adz,acF] at h
  obtain ⟨r1,h1,h2⟩:=Za (f:=f+ns.length) (acc:=acc) (p:=jZ n) h (fun l' h'=>ag1 (hn n (by simp)) h')
  obtain ⟨r2,h3,h4⟩:=IG ns f r1 (acc ++ [jZ n]) cs (fun x hx=>hn x (ada _ hx)) h2
  exact ⟨r2,by rw [acd,<-akR,h1,h3,acF];rfl,h4⟩
theorem FB: ∀(ns:List Gr.R) (f:Nat) (l:T) (acc:List aZ) (cs:List C),(∀n∈ns,IE n)->l.map core=ns.flatMap Bv ++ cs->
  ∃r,script (f+ns.length) l acc=script f r (acc ++ ns.map kR)/\r.map core=cs
 | [],f,l,acc,cs,_,h=>⟨l,by rw [aek,acK];rfl,h⟩
 | n :: ns,f,l,acc,cs,hn,h=>by
  rw [adz,acF] at h
  obtain ⟨r1,h1,h2⟩:=Za (f:=f+ns.length) (acc:=acc) (p:=kR n) h (fun l' h'=>ag2 (hn n (by simp)) h')
  obtain ⟨r2,h3,h4⟩:=FB ns f r1 (acc ++ [kR n]) cs (fun x hx=>hn x (ada _ hx)) h2
  exact ⟨r2,by rw [acd,<-akR,h1,h3,acF];rfl,h4⟩
end Go.Proofs.YtoofbflplhbpbaaGreatDoor.Cy
