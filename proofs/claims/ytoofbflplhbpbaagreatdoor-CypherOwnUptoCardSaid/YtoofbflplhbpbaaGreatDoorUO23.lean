/- Contracts and plain laws,part 23. -/
import Derived.Test.YtoofbflplhbpbaaGreatDoorUO22
set_option maxHeartbeats 64000000
set_option maxRecDepth 1000000
set_option linter.all false
namespace Go.Proofs.YtoofbflplhbpbaaGreatDoor
open Go.RowKit
structure Kp (base:Nat) (w w':World):Prop where
 bel:Below base w w'
 keep: ∀(b:Nat) (c:Array Value) (t:TypeId) (fz:Nat×Nat),w.heap[b]?=some (.cells c t fz)->t≠99->t≠59->t≠63->w'.heap[b]?=some (.cells c t fz)
theorem Kp.refl (base:Nat) (w:World):Kp base w w:=⟨Below.refl _ _,fun _ _ _ _ h _ _ _=>h⟩
theorem Kp.trans {base:Nat} {a b c:World} (h:Kp base a b) (k:Kp base b c):Kp base a c:=
 ⟨h.bel.trans k.bel,fun i cs t fz hc h1 h2 h3=>k.keep i cs t fz (h.keep i cs t fz hc h1 h2 h3) h1 h2 h3⟩
theorem Kp.of_below {base:Nat} {w w':World} (h:Below w.heap.size w w') (hb:base<=w.heap.size):Kp base w w':=
 ⟨h.mono hb,fun b c t fz hc _ _ _=>(h.block b (acI.1 hc).1).trans hc⟩
theorem Kp.vN {base g:Nat} {w w':World} (h:w.grownBy w' (some g)) (hb:base<=w.heap.size) (hg:base<=g)
  (hty: ∀c t fz,w.heap[g]?=some (.cells c t fz)->t=99\/t=59\/t=63):Kp base w w':=by
 refine ⟨⟨h.os,h.tape,h.output,h.size,fun k hk=>h.block k (by omega) (fun e=>by cases e;omega)⟩,fun b c t fz hc h1 h2 h3=> ?_⟩
 rw [h.block b (acI.1 hc).1 ?_]
 ·exact hc
 intro e;cases e
 rcases hty c t fz hc with e | e | e
 ·exact h1 e
 ·exact h2 e
 exact h3 e
theorem oH {base B e size n:Nat} {v:Value} {xs:List Value} {w w':World} (h:w.ownsRow B e size v n xs) (hk:Kp base w w') (h1:e≠99) (h2:e≠59) (h3:e≠63):w'.ownsRow B e size v n xs:=by
 obtain ⟨hl,h⟩:=h;refine ⟨hl, ?_⟩
 rcases h with h |⟨g,cap,cur,hv,hb,hc,hr⟩
 ·exact .inl h
 exact .inr ⟨g,cap,cur,hv,hb,hk.keep _ _ _ _ hc h1 h2 h3,hr⟩
theorem dJ.kp {base B:Nat} {x:Gr.P×List Value} {w w':World} (h:dJ w B x) (hk:Kp base w w'):dJ w' B x:=by
 obtain ⟨s,t,e,h1,h2⟩:=h
 exact ⟨s,t,e,oH h1 hk (by decide) (by decide) (by decide),oH h2 hk (by decide) (by decide) (by decide)⟩
theorem aV.kp {T:TypeId} {base B:Nat} {v:Value} {ps:List Gr.P} {w w':World} (h:aV T w B v ps) (hk:Kp base w w') (h1:T≠99) (h2:T≠59) (h3:T≠63):aV T w' B v ps:=by
 obtain ⟨l,e,hx,ho⟩:=h;exact ⟨l,e,fun x hm=>(hx x hm).kp hk,oH ho hk h1 h2 h3⟩
theorem mM.kp {base B:Nat} {x:Cy.aZ×List Value} {w w':World} (h:mM w B x) (hk:Kp base w w'):mM w' B x:=by
 obtain ⟨s,t,e,h1,h2⟩:=h
 exact ⟨s,t,e,oH h1 hk (by decide) (by decide) (by decide),h2.kp hk (by decide) (by decide) (by decide)⟩
theorem nO.kp {base B:Nat} {v:Value} {ps:List Cy.aZ} {w w':World} (h:nO w B v ps) (hk:Kp base w w'):nO w' B v ps:=by
 obtain ⟨l,e,hx,ho⟩:=h
 exact ⟨l,e,fun x hm=>(hx x hm).kp hk,oH ho hk (by decide) (by decide) (by decide)⟩
def ah5 (o:Option Int) (w:World) (e:Ending) (w':World):Prop:=
 ∃n b,e= .returned (.tuple #[.int .i64 n, .bool b])/\Below w.heap.size w w'/\match o with
  | none=>b=false
  | some k=>b=true/\n=k/\ak.In64 k/\0<=k
theorem aam (c:UInt8):Lib.trimPrefix ([]:List UInt8) [c]= []/\Lib.hasPrefix ([]:List UInt8) [c]=false:=by
 constructor<;> rfl
theorem Sj (c:UInt8) (r:List UInt8):Lib.trimPrefix (c :: r) [c]=r/\Lib.hasPrefix (c :: r) [c]=true:=by
 constructor<;> simp [Lib.trimPrefix,Lib.hasPrefix]
theorem aan {c d:UInt8} (h:d≠c) (r:List UInt8):Lib.trimPrefix (d :: r) [c]=d :: r/\Lib.hasPrefix (d :: r) [c]=false:=by
 have e: [c].isPrefixOf (d :: r)=false:=by
  show (c == d && List.isPrefixOf [] r)=false
  rw [ab3.2 (Ne.symm h)];rfl
 refine ⟨?_,e⟩
 show (if [c].isPrefixOf (d :: r)=true then _ else _)=_
 rw [e];rfl
theorem ah6 (c:UInt8) (most:Int) (s:List UInt8) (h:Lib.hasPrefix s [c]=false):Cy.mX c most s=none:=by
 cases s with
 | nil=>rfl
 | cons d r=>
  show (if _ then _ else _)=_
  rw [ab6];rintro ⟨rfl,-⟩;rw [(Sj d r).2] at h;exact Bool.noConfusion h
theorem ah7 (c:UInt8) (most:Int) (s:List UInt8) (h:Lib.hasPrefix s [c]=true):Cy.mX c most s=if (Num.fQ (Lib.trimPrefix s [c])).2=0/\0<=(Num.fQ (Lib.trimPrefix s [c])).1/\(Num.fQ (Lib.trimPrefix s [c])).1<most then some (Num.fQ (Lib.trimPrefix s [c])).1 else none:=by
 cases s with
 | nil=>rw [(aam c).2] at h;exact absurd h (by simp)
 | cons d r=>
  by_cases e:d=c
  ·subst e
   rw [(Sj d r).1];unfold Cy.mX;simp
  rw [(aan e r).2] at h;exact absurd h (by simp)
theorem ah8 (s:List UInt8) (c:UInt8):(Lib.trimPrefix s [c]).length<=s.length:=by
 cases s with
 | nil=>simp [(aam c).1]
 | cons d r=>
  by_cases e:d=c
  ·subst e;rw [(Sj d r).1];simp
  rw [(aan e r).1];exact ab1 _
theorem Sm (z:ByteArray) (c:UInt8) (most:Int) (w:World) (hs:z.size<=1073741824) (hm:ak.In64 most) (hL:Laid w):
  Calls Tryz.prog 89 #[.string z, .string ⟨#[c]⟩, .int .i64 most] w (ah5 (Cy.mX c most z.data.toList) w):=by
 obtain ⟨o,ho⟩: ∃o,Cy.mX c most z.data.toList=o:=⟨_,rfl⟩;rw [ho]
 obtain ⟨H,hH⟩: ∃H,Lib.hasPrefix z.data.toList [c]=H:=⟨_,rfl⟩
 obtain ⟨y,hy⟩: ∃y:ByteArray,(⟨(Lib.trimPrefix z.data.toList [c]).toArray⟩:ByteArray)=y:=⟨_,rfl⟩
 obtain ⟨n,en,hne⟩: ∃n en,Num.fQ y.data.toList=(n,en):=⟨_,_,rfl⟩
 have hc:=Tryz.strings_CutPrefix z ⟨#[c]⟩ w
 change Calls _ _ _ _ (fun e w'=>e= .returned (.tuple #[.string ⟨(Lib.trimPrefix z.data.toList [c]).toArray⟩, .bool (Lib.hasPrefix z.data.toList [c])])/\w'=w) at hc
 rw [hH,hy] at hc
 have hys:y.size<=1073741824:=by rw [<-hy,bf];exact ab5 (ah8 _ _) (by rw [<-Lib.size_eq];exact hs)
 have hpi:=X6 y w hys hL;rw [hne] at hpi;have h64:=Cy.Zn y.data.toList;rw [hne] at h64
 have HO:=ah ho;have HH:=ah hH;have HY:=ah hy;have HN:=ah hne;have HC:=ah hc
 have DR:=ah hpi;have HU:=ah lD;have H64:=ah h64
 clear ho hH hy hne hc hpi hs hys hL hm h64;go_enter Tryz.func89,Tryz.ntmps89
 go_wp2_with fail;refine HC.out.mono ?_;rintro e w1 ⟨rfl,rfl⟩;go_wp2_with fail
 refine DR.out.mono ?_;rintro e w2 ⟨rfl,hb⟩;have HB:=ah hb;clear hb;cases H with
 | false=>
  have HE:=ah (show o=none by rw [<-HO.out];exact ah6 _ _ _ HH.out)
  clear HO;go_wp2
  go_ret2
  exact ⟨n,false,rfl,HB.out,by rw [HE.out]⟩
 | true=>
 have ho:=HO.out;rw [ah7 _ _ _ HH.out] at ho
 have hyl:y.data.toList=Lib.trimPrefix z.data.toList [c]:=by rw [<-HY.out]
 rw [<-hyl,HN.out] at ho;have HE:=ah ho;clear ho hyl HO;by_cases h1:en=0
 case neg=>
  have t1:((en:Int) == 0)=false:=by rw [ab3];omega
  have hx:o=none:=by rw [<-HE.out,ab6 (fun h=>h1 h.1)]
  have HX:=ah hx;clear hx h1;go_wp2
  go_ret2
  exact ⟨n,false,rfl,HB.out,by rw [HX.out]⟩
 subst h1;by_cases h2:0<=n
 case neg=>
  have t2:decide (0<=n)=false:=abX h2;have hx:o=none:=by rw [<-HE.out,ab6 (fun h=>h2 h.2.1)]
  have HX:=ah hx;clear hx;go_wp2
  go_ret2
  exact ⟨n,false,rfl,HB.out,by rw [HX.out]⟩
 have t2:decide (0<=n)=true:=abW h2;by_cases h3:n<most
 case neg=>
  have t3:decide (n<most)=false:=abX h3
  have hx:o=none:=by rw [<-HE.out,ab6 (fun h=>h3 h.2.2)]
  have HX:=ah hx;clear hx;go_wp2
  go_ret2
  exact ⟨n,false,rfl,HB.out,by rw [HX.out]⟩
 have t3:decide (n<most)=true:=abW h3;have hx:o=some n:=by rw [<-HE.out,ab7 ⟨rfl,h2,h3⟩]
 have HX:=ah hx;have H2:=ah h2;clear hx;go_wp2
 go_ret2
 exact ⟨n,true,rfl,HB.out,by rw [HX.out];exact ⟨rfl,rfl,H64.out,H2.out⟩⟩
theorem pair_cells {W:World} {base:Nat} {T:TypeId} {A:Option Addr} {n c:Nat} {l:List (Gr.P×List Value)} (h:W.ownsRow base T 6 (.slice A n c) n (l.flatMap Prod.snd)) (hn:l.length=n) (hx: ∀x∈l,x.2.length=6)
  {k:Nat} {x:Gr.P×List Value} (hk:l[k]?=some x): ∃g off,A=some ⟨g,off,none⟩/\g<W.heap.size/\ ∀(j:Nat) u,x.2[j]?=some u->W.cell? ⟨g,off+k*6+j,none⟩=some u:=by
 subst hn
 obtain ⟨b,off,cs,e,hlt,hr,-,hc⟩:=cZ.je (R:=fun a cs=>cs=a.2) (f:=Prod.snd) h hx (fun _ _=>rfl) k x hk
 subst hr;exact ⟨b,off,e,hlt,hc⟩
theorem dJ.form {W:World} {B:Nat} {p:Gr.P} {cs:List Value} (h:dJ W B (p,cs)): ∃A1 c1 A2 c2,cs= [ST p.key, .int .i64 p.val.kind, .int .i64 p.val.num,ST p.val.text, .slice A1 p.val.nums.length c1, .slice A2 p.val.texts.length c2]/\
  W.ownsRow B 2 1 (.slice A1 p.val.nums.length c1) p.val.nums.length (p.val.nums.map I64)/\W.ownsRow B 9 1 (.slice A2 p.val.texts.length c2) p.val.texts.length (p.val.texts.map ST):=by
 obtain ⟨s,t,e,h1,h2⟩:=h;obtain ⟨A1,c1,rfl⟩:=aJ h1;obtain ⟨A2,c2,rfl⟩:=aJ h2
 exact ⟨A1,c1,A2,c2,e,h1,h2⟩
theorem dJ.below {w w':World} {B:Nat} {x:Gr.P×List Value} (h:dJ w B x) (hb:Below w.heap.size w w'):dJ w' B x:=h.row (iT hb none) (fun g c t fz hr=>by cases hr)
theorem sK.vok {p:Gr.P} (h:Cy.sK p):BN p.val:=by
 have h1:=h.val.tl;have h2:=h.val.nl;have h3:=h.val.sl;have h4:=h.val.kin
 exact ⟨⟨by omega,by omega⟩,h.val.num,h.val.nums,by omega,by omega,by omega,fun t ht=>by have:=h.val.sz t ht;omega⟩
structure GU (w:World) (B:Nat) (l:List (Gr.P×List Value)) (k:Nat) (v:Value) (V:World):Prop where
 bel:Below w.heap.size w V
 map:gK V w.heap.size ((l.take k).map fun x=>x.1.key)
 row:V.ownsRow (w.heap.size+1) 61 6 v k ((l.take k).flatMap Prod.snd)
theorem GU.below {w V V':World} {B k:Nat} {l:List (Gr.P×List Value)} {v:Value} (h:GU w B l k v V) (hb:Below V.heap.size V V'):GU w B l k v V':=
 ⟨h.bel.trans (hb.mono h.bel.size),h.map.below hb,dS h.row (iT hb none) (fun g c t fz hr=>by cases hr)⟩
theorem ah9:(Tryz.prog.info? 61).map (fun i=>(i.zero,i.size,i.bytes))=some (some (.agg #[.string ⟨#[]⟩, .int .i64 0, .int .i64 0, .string ⟨#[]⟩, .slice none 0 0, .slice none 0 0]),6,96):=by kernel_rfl
def aia (B:Nat) (w:World) (ps:List Gr.P) (R:Nat) (e:Ending) (w':World):Prop:=
 ∃v,e= .returned (.tuple #[v, .int .i64 (R:Nat)])/\Below w.heap.size w w'/\(R=0->aV 61 w' B v ps)/\(R≠0->v= .slice none 0 0)
theorem aao (B:Nat) (A:Option Addr) (n c:Nat) (ps:List Gr.P) (w:World) (h:aV 212 w B (.slice A n c) ps) (hn:ps.length=n) (hn2:n<=16777216) (hs: ∀p∈ps,Cy.sK p) (hB:B<=w.heap.size):
  Calls Tryz.prog 91 #[.slice A n c] w (aia B w ps (Cy.dV [] ps)):=by
 obtain ⟨R,hR⟩: ∃R,Cy.dV [] ps=R:=⟨_,rfl⟩;rw [hR];obtain ⟨l,hl,hx,ho⟩:=h;rw [hn] at ho
 have hll:l.length=n:=by rw [<-hn,<-hl,ace]
 have HX:=ah hx
 have HX6:=ah (show∀x∈l,x.2.length=6 from fun x hm=>by obtain ⟨s,t,e,-⟩:=hx x hm;rw [e];rfl)
 have HO:=ah ho;have HL:=ah hl;have dR:=ah hll;have HR:=ah hR;have oQ:=ah hB
 have dL:=ah hs
 have gq:=ah (show GU w B l 0 (.slice none 0 0) (w.alloc (.map #[] 0)) from ⟨(Below.refl _ w).alloc (ab1 _) _,by rw [akd];exact gK.made w,by rw [akd];exact World.ownsRow_nil _ _ _ _⟩)
 obtain ⟨W0,hW0⟩: ∃W,w.alloc (.map #[] 0)=W:=⟨_,rfl⟩;rw [hW0] at gq;have HW0:=ah hW0
 have hmm:= @run_makeMap Tryz.prog;clear hl hx ho hll hR hB hs hn hW0
 go_enter Tryz.func91,Tryz.ntmps91
 go_upto_region 2 with fail
 rw [HW0.out];clear hmm HW0;go_wp2_with fail
 go_loopg [2,11] n (fun q x y wr=> ∃k:Nat,∃A' c',x= .slice A' k c'/\y= .int .i64 k/\k+q=n/\GU w B l k (.slice A' k c') wr/\Hid (Cy.dV ((l.take k).map fun x=>x.1.key) (ps.drop k)=R))
 case atStart=>exact ⟨0,none,0,rfl,rfl,by omega,gq.out,HR.out⟩
 obtain ⟨k,A1,c1,rfl,rfl,hk,hs,HE⟩:=hrel;have HS:=ah hs;have HK:=ah hk;clear hs gq HR
 cases gk with
 | zero=>
  obtain rfl:k=n:=by omega
  have he:_=R:=HE
  have hd:ps.drop k= []:=by rw [<-HL.out];exact ak0 (by rw [ace,dR.out];exact ab1 _)
  rw [hd] at he;have hr0:R=0:=by rw [<-he];simp [Cy.dV]
  have hrow:=HS.out.row;rw [acg (by rw [dR.out];exact ab1 _)] at hrow
  subst hr0
  have hpo:aV 61 wr B (.slice A1 k c1) ps:=⟨l,HL.out,fun x hm=>(HX.out x hm).below HS.out.bel,by rw [<-HL.out,ace,dR.out];exact own_base hrow (by have:=oQ.out;omega)⟩
  have Ea:=ah hpo;clear he hd hrow hpo HE hk;go_wp2
  go_ret2
  exact ⟨_,rfl,HS.out.bel,fun _=>Ea.out,fun h=>absurd rfl h⟩
 | succ q=>
  have hkn:k<n:=by omega
  have dD:(k:Int)<n:=by omega
  obtain ⟨x,hxk⟩: ∃x,l[k]?=some x:=⟨_,ab2 (by rw [dR.out];exact hkn)⟩
  obtain ⟨p,cs⟩:=x;have hpk:ps[k]?=some p:=by rw [<-HL.out,acJ,hxk];rfl
  have hdr:ps.drop k=p :: ps.drop (k+1):=by
   rw [adC (by rw [<-HL.out,ace,dR.out];exact hkn)]
   congr 1
   exact acE ((ab2 _).symm.trans hpk)
  have htk:l.take (k+1)=l.take k ++ [(p,cs)]:=by rw [adZ,hxk];rfl
  have hpo:=HX.out _ (acf hxk)
  obtain ⟨g,off,rfl,hgl,hcl⟩:=pair_cells HO.out dR.out HX6.out hxk
  obtain ⟨An,cn,At,ct,rfl,hn1,ht1⟩:=hpo.form
  have hcell:=fun (j:Nat) u (hu:([ST p.key, .int .i64 p.val.kind, .int .i64 p.val.num,ST p.val.text, .slice An p.val.nums.length cn, .slice At p.val.texts.length ct]:List Value)[j]?=some u)=>(HS.out.bel.cell (p:=⟨g,off+k*6+j,none⟩) hgl).trans (hcl j u hu)
  have d0:=hcell 0 _ rfl;have d1:=hcell 1 _ rfl;have d2:=hcell 2 _ rfl
  have d3:=hcell 3 _ rfl;have d4:=hcell 4 _ rfl;have d5:=hcell 5 _ rfl;rw [akz] at d0
  obtain ⟨zk,jk⟩: ∃z:ByteArray,(⟨p.key.toArray⟩:ByteArray)=z:=⟨_,rfl⟩
  obtain ⟨zt,aO⟩: ∃z:ByteArray,(⟨p.val.text.toArray⟩:ByteArray)=z:=⟨_,rfl⟩
  have e1:ST p.key= .string zk:=by rw [<-jk];rfl
  have e2:ST p.val.text= .string zt:=by rw [<-aO];rfl
  rw [e1] at d0;rw [e2] at d3
  obtain ⟨WN,aX⟩: ∃W,wr.alloc (.cells #[.string zk, .int .i64 p.val.kind, .int .i64 p.val.num, .string zt, .slice An p.val.nums.length cn, .slice At p.val.texts.length ct] 212)=W:=⟨_,rfl⟩
  have hbn:Below wr.heap.size wr WN:=by rw [<-aX];exact (Below.refl _ _).alloc (ab1 _) _
  obtain ⟨nd,hnd⟩: ∃x,wr.heap.size=x:=⟨_,rfl⟩
  have hk0:aj WN nd 212 #[.string zk, .int .i64 p.val.kind, .int .i64 p.val.num, .string zt, .slice An p.val.nums.length cn, .slice At p.val.texts.length ct]:=by rw [<-aX,<-hnd];exact aj.new _ _ _
  have bU:=ah (HS.out.below hbn)
  have kZ:=ah (show nd≠w.heap.size by have:=HS.out.map.lt;omega)
  have hps:=dL.out p (acf hpk);have acS:zk.size<=16777216:=by rw [<-jk,bf];exact hps.key
  have J3:=ah (show zk.data.toList=p.key by rw [<-jk])
  have HVI:=ah (fun (V:World) (hb:Below w.heap.size w V)=>(show jR V V.heap.size (.agg #[.int .i64 p.val.kind, .int .i64 p.val.num, .string zt, .slice An p.val.nums.length cn, .slice At p.val.texts.length ct]) p.val by rw [<-e2];exact xP (sK.vok hps) ((Reads.je (dS hn1 (iT hb none) (fun g c t fz hr=>by cases hr)))) ((Reads.je (dS ht1 (iT hb none) (fun g c t fz hr=>by cases hr))))))
  have kW:=ah hk0;have Ea:=ah (HX.out _ (acf hxk));have nX:=ah hps;have eG:=ah aX
  have iD:=ah htk;have HDR:=ah hdr;have BZ:=ah (And.intro e1 e2)
  have hgn:=FM zk WN (by omega)
  rw [show zk.data.toList=p.key from J3.out] at hgn
  have he:_=R:=HE;rw [hdr] at he;rw [Cy.dV] at he
  obtain ⟨GB,Ad⟩: ∃b,Gr.dw p.key=b:=⟨_,rfl⟩;rw [Ad] at he hgn;have HE2:=ah he
  have jE:=ah hgn
  clear hxk hpk hdr htk hpo hgl hcl hn1 ht1 hcell jk aO e1 e2 aX hbn hk0 hps hgn he Ad HE HS hk
  go_upto_region 5 with fail
  rw [eG.out]
  try rw [hnd]
  clear hnd d0 d1 d2 d3 d4 d5 eG;obtain ⟨d0,d1,d2,d3,d4,d5⟩:=yg kW.out;go_wp2_with fail
  refine jE.out.mono ?_;rintro e w1 ⟨rfl,rfl⟩;cases GB with
  | false=>
   have hr:R=60:=by rw [<-HE2.out,ab7 rfl]
   subst hr;go_wp2
   go_ret2
   exact ⟨_,rfl,bU.out.bel,fun h=>absurd h (by decide),fun _=>rfl⟩
  | true=>
  have he:=HE2.out;rw [ab6 (by decide)] at he
  have fJ:=ah he;clear he HE2 jE
  obtain ⟨LK,Oz⟩: ∃L,(l.take k).map (fun x=>x.1.key)=L:=⟨_,rfl⟩
  have hlk:=bU.out.map;rw [Oz] at hlk
  have Vd:=hlk.look (t:=150) Tryz.underlying150 (s:=zk) (by unfold maxLen;omega)
  rw [show zk.data.toList=p.key from J3.out] at Vd
  obtain ⟨N,hN⟩: ∃N,LK.count p.key=N:=⟨_,rfl⟩
  have kK:LK.length<=k:=by rw [<-Oz,ace,acW];omega
  have qj:N<=LK.length:=by rw [<-hN];exact akp
  rw [hN] at Vd;have hNi:(N:Int)<=16777216:=by omega
  have HCM:=ah hlk;have jc:=ah hN;have OA:=ah Oz;have Oi:=ah acS
  have acT:LK.length<=16777216:=by omega
  have tC:=ah acT;clear hlk hN Oz kK qj acS acT
  go_wp2_with (at_mapUpdate;refine Nv _ rfl HCM.out (by have:=tC.out;omega) (.tmp 19) (.tmp 21) (.tmp 23) 150 rfl Tryz.underlying150 rfl zk (by have:=Oi.out;unfold maxLen;omega) rfl (by rw [show zk.data.toList=p.key from J3.out,jc.out];rfl) ?_)
  intro w1 hc1 hg1;rw [show zk.data.toList=p.key from J3.out] at hc1
  have HB1:=ah (show Below w.heap.size w w1 from bU.out.bel.trans ⟨hg1.os,hg1.tape,hg1.output,hg1.size,fun i hi=>hg1.block i (adf hi bU.out.bel.size) (fun e=>by cases e;omega)⟩)
  have HR1:=ah (iw bU.out.row hg1 (adH _))
  have hk1:=kW.out.grown hg1 (fun e=>kZ.out (acE e))
  have kV:=ah hc1;have Ve:=ah hk1
  have hlk2:=hc1.look (t:=150) Tryz.underlying150 (s:=zk) (by have:=Oi.out;unfold maxLen;omega)
  rw [show zk.data.toList=p.key from J3.out,amC,jc.out,al5] at hlk2
  clear hc1 hg1 Vd d0 d1 d2 d3 d4 d5 bU kW HCM;obtain ⟨d0,d1,d2,d3,d4,d5⟩:=yg hk1
  clear hk1;by_cases hN0:N=0
  case neg=>
   have t1:decide ((1:Int)<((N+1:Nat):Int))=true:=abW (by omega)
   have hr:R=7:=by
    rw [<-fJ.out,OA.out,ab7 (akN.1 (by rw [jc.out];omega))]
   subst hr;go_wp2
   go_ret2
   exact ⟨_,rfl,HB1.out,fun h=>absurd h (by decide),fun _=>rfl⟩
  subst hN0;have he:=fJ.out
  rw [OA.out,ab6 (fun h=>by have:=akN.2 h;rw [jc.out] at this;omega)] at he
  obtain ⟨cv,hcv⟩: ∃c,ak.check p.val=c:=⟨_,rfl⟩;rw [hcv] at he;have nV:=ah he
  have hck:=check_any w1.heap.size _ p.val w1 (HVI.out w1 HB1.out) (ab1 _);rw [hcv] at hck
  have aU:=ah hck;have t1:decide ((1:Int)<((0+1:Nat):Int))=false:=abX (by omega)
  clear he hcv hck fJ;go_wp2_with fail;refine aU.out.mono ?_;rintro e w2 ⟨rfl,hb2⟩
  have HB2:=ah (HB1.out.trans (hb2.mono HB1.out.size))
  have hr2:=dS HR1.out (iT hb2 none) (fun g c t fz hr=>by cases hr)
  have HC2:=ah (kV.out.below hb2);have hk2:=Ve.out.below hb2 Ve.out.lt
  clear d0 d1 d2 d3 d4 d5 hlk2 t1 kV HB1 HR1 Ve aU;by_cases hc0:cv=0
  case neg=>
   have t1:((cv:Int) !=0)=true:=by rw [acV];omega
   have hr:R=cv:=by rw [<-nV.out,ab7 hc0]
   subst hr;clear hb2 hr2 hk2;have xW:=ah hc0;clear hc0;go_wp2
   go_ret2
   exact ⟨_,rfl,HB2.out,fun h=>absurd h xW.out,fun _=>rfl⟩
  subst hc0;have he:=nV.out;rw [ab6 (by decide)] at he
  have zW:=ah he;have HR2:=ah hr2;obtain ⟨d0,d1,d2,d3,d4,d5⟩:=yg hk2
  have hsz2:w.heap.size+1<=w2.heap.size:=HC2.out.lt;have hkb:k<536870912:=by omega
  clear hb2 hr2 hk2 he nV
  go_wp2_with (at_builtin;refine Yt rfl (.tmp 35) (.tmp 41) 57 61 (.agg #[.string ⟨#[]⟩, .int .i64 0, .int .i64 0, .string ⟨#[]⟩, .slice none 0 0, .slice none 0 0]) 6 96 Tryz.underlying57 ah9 rfl (by decide) (by decide) rfl (w.heap.size+1) (.slice A1 k c1) k ((l.take k).flatMap Prod.snd) w2 rfl HR2.out [.string zk, .int .i64 p.val.kind, .int .i64 p.val.num, .string zt, .slice An p.val.nums.length cn, .slice At p.val.texts.length ct] _ rfl rfl (by simp [Value.oneCell']) rfl hkb hsz2 ?_)
  intro v9 w9 aN bC dO aF;obtain ⟨A9,c9,rfl⟩:=aJ aN
  have lg:=ah (show GU w B l (k+1) (.slice A9 (k+1) c9) w9 from ⟨HB2.out.trans (aF.mono (als _)),by rw [iD.out,ade,OA.out];exact gK.kept HC2.out bC (fun e=>by have:=(mG HR2.out _ e.symm).1;omega),by rw [iD.out,ad4,adz,amo,acK,BZ.out.1,BZ.out.2];exact aN⟩)
  clear aN bC dO aF d0 d1 d2 d3 d4 d5;go_wp2
  go_roundg q
  case measure=>omega
  exact ⟨k+1,A9,c9,rfl,int_eq (by omega),by have:=HK.out;omega,lg.out,by rw [iD.out,ade,OA.out];exact zW.out⟩
end Go.Proofs.YtoofbflplhbpbaaGreatDoor
