/- Contracts and plain laws,part 33. -/
import Derived.Test.YtoofbflplhbpbaaGreatDoorUO32
set_option maxHeartbeats 64000000
set_option maxRecDepth 1000000
set_option linter.all false
namespace Go.Proofs.YtoofbflplhbpbaaGreatDoor
open Go.RowKit
structure vP (p:Gr.P):Prop where
 ok:pV p
 key:p.key.length<=40
 val:ak.check p.val=0
theorem aja {p:Gr.P} (h:vP p):(Cy.iq p).length<=400042:=by
 have:=aaF h.val h.ok.val.nums h.ok.val.num;have:=h.key;unfold Cy.iq
 simp only [dA,acd,adk];omega
theorem Tn {ps:List Gr.P} (hl:ps.length<=16) (hs: ∀p∈ps,vP p):(Cy.join [44,32] (ps.map Cy.iq)).length<=6500000/\(Cy.jL ps).length<=6500003:=by
 have h1:=IY [44,32] 400042 (ps.map Cy.iq) (fun x hx=>by obtain ⟨p,hp,rfl⟩:=ad5.1 hx;exact aja (hs p hp))
 have h2:(ps.map Cy.iq).length*(400042+ [44,32].length)<=16*400044:=alj (by rw [ace];exact hl) (by decide)
 have h3:(Cy.join [44,32] (ps.map Cy.iq)).length<=6500000:=by omega
 refine ⟨h3, ?_⟩;unfold Cy.jL
 split
 ·simp
 simp only [dA,acd,adk];omega
theorem Tq (n:Int) (w:World) (hn:ak.In64 n) (hL:Laid w):
  Calls Tryz.prog 42 #[.int .i64 n] w fun e w'=>e= .returned (.string ⟨(110 :: Lib.itoa n).toArray⟩)/\Below w.heap.size w w':=by
 have hc:=Qn n w hn.1 hn.2 hL;have hl:=oC hn.1 hn.2
 obtain ⟨z,hz⟩: ∃z:ByteArray,(⟨(Lib.itoa n).toArray⟩:ByteArray)=z:=⟨_,rfl⟩
 have hzs:z.size<=21:=by rw [<-hz,bf];exact hl
 have HR:=ah (show (⟨(110 :: Lib.itoa n).toArray⟩:ByteArray)=⟨#[110]⟩ ++ z by rw [<-hz];apply adW;simp)
 rw [hz] at hc;have HC:=ah hc;clear hc hl hz;go_enter Tryz.func42,Tryz.ntmps42
 go_wp2_with fail;refine HC.out.mono ?_;rintro e w' ⟨rfl,hb⟩;have HB:=ah hb;clear hb
 go_wp2;go_ret;exact ⟨by rw [HR.out];rfl,HB.out⟩
theorem aaY (B:Nat) (A:Option Addr) (c:Nat) (ps:List Gr.P) (w:World) (h:cZ w B 6 (aQ w B) A ps) (hB:B<=w.heap.size) (hl:ps.length<=16) (hs: ∀p∈ps,vP p) (hL:Laid w):
  Calls Tryz.prog 43 #[.slice A ps.length c] w fun e w'=>e= .returned (.string ⟨(Cy.jL ps).toArray⟩)/\Below w.heap.size w w':=by
 obtain ⟨R,hR⟩: ∃R,Cy.jL ps=R:=⟨_,rfl⟩;rw [hR];unfold Cy.jL at hR;have KC:=ah (Tn hl hs).1
 obtain ⟨n,hn⟩: ∃n,ps.length=n:=⟨_,rfl⟩;rw [hn] at hl⊢;have HH:=ah h;have HS:=ah hs
 have HN:=ah hn;have HL:=ah hL;have oQ:=ah hB;have HR:=ah hR;clear h hs hL hB hR
 by_cases h0:ps= []
 ·have hn0:n=0:=by rw [<-hn,h0];rfl
  subst hn0;have HF:=ah (show R= [] by rw [<-HR.out,ab7 h0])
  clear h0 hn;go_enter Tryz.func43,Tryz.ntmps43;go_wp2;go_ret
  exact ⟨by rw [HF.out];rfl,Below.refl _ _⟩
 have hpos:0<n:=by rw [<-hn];exact adY.2 h0
 have hne:(n == 0)=false:=ab3.2 (by omega)
 have hni:(0:Int)<n:=by omega
 have anU:(n:Int)<=16:=by omega
 have anV:((n:Int) == 0)=false:=ab3.2 (by omega)
 have HF:=ah (show R= [32,123] ++ Cy.join [44,32] (ps.map Cy.iq) ++ [125] by rw [<-HR.out,ab6 h0])
 clear h0 hn hpos HR;go_enter Tryz.func43,Tryz.ntmps43;go_wp2_with fail
 go_loopg [13,3] n (fun g x y wr=> ∃(k c:Nat) (A:Option Addr),x= .int .i64 k/\y= .slice A k c/\k+g=n/\PR w ((ps.take k).map Cy.iq) A k c wr)
 case atStart=>exact ⟨0,0,none,rfl,rfl,by omega,rfl,World.ownsRow_nil _ _ _ _,Below.refl _ _⟩
 obtain ⟨k,ca,A2,rfl,rfl,hk,hrel⟩:=hrel;have HK:=ah hk;cases gk with
 | zero=>
  obtain rfl:k=n:=by omega
  rw [acg (by have:=HN.out;omega)] at hrel
  have HQ:=ah hrel
  have hjc:=aac w.heap.size 9 A2 ca _ wr k HQ.out.len (by omega) HQ.out.own (by have:=KC.out;omega)
  obtain ⟨jz,hjz⟩: ∃jz:ByteArray,(⟨(Cy.join [44,32] (ps.map Cy.iq)).toArray⟩:ByteArray)=jz:=⟨_,rfl⟩
  rw [hjz] at hjc;have hjs:jz.size<=6500000:=by rw [<-hjz,bf];exact KC.out
  have ny:=ah (show (⟨R.toArray⟩:ByteArray)=⟨#[32,123]⟩ ++ jz ++⟨#[125]⟩ by apply adW;rw [HF.out,<-hjz];simp)
  have VF:=ah hjc;clear hjc hjz hrel hk
  have hq2:(⟨#[32,123]⟩ ++ jz:ByteArray).size<=6500002:=by rw [adG];show 2+jz.size<=6500002;omega
  go_wp2_with fail;refine VF.out.mono ?_;rintro e w4 ⟨rfl,hb4⟩
  have kJ:=ah (HQ.out.bel.trans (hb4.mono HQ.out.bel.size));clear hb4;go_wp2;go_ret
  exact ⟨by rw [ny.out];rfl,kJ.out⟩
 | succ g=>
  have hkn:k<n:=by omega
  have dD:(k:Int)<n:=by omega
  obtain ⟨p,hp⟩: ∃p,ps[k]?=some p:=⟨_,ab2 (by rw [HN.out];exact hkn)⟩
  have hmt:=map_take hp Cy.iq;obtain ⟨LL,tJ⟩: ∃LL,(ps.take k).map Cy.iq=LL:=⟨_,rfl⟩
  rw [tJ] at hrel hmt;have HQ:=ah hrel;have KA:=ah hmt;have hB:=oQ.out
  have yh:=HH.out.below (HQ.out.bel.mono hB) (aQ.below (HQ.out.bel.mono hB))
  obtain ⟨b,o,An,cn,At,ct,rfl,hbB,⟨c0,c1,c2,c3,c4,c5⟩,r1,r2⟩:=yh.prop hp
  have hpp:=HS.out p (acf hp)
  obtain ⟨z,hz⟩: ∃z:ByteArray,(⟨p.key.toArray⟩:ByteArray)=z:=⟨_,rfl⟩
  obtain ⟨zt,aO⟩: ∃z:ByteArray,(⟨p.val.text.toArray⟩:ByteArray)=z:=⟨_,rfl⟩
  unfold ST at c0 c3;rw [hz] at c0;rw [aO] at c3;clear hp hk hkn hmt tJ hrel
  obtain ⟨W1,hW1⟩: ∃W1,wr.alloc (.cells #[.string z, .int .i64 p.val.kind, .int .i64 p.val.num, .string zt, .slice An p.val.nums.length cn, .slice At p.val.texts.length ct] 61)=W1:=⟨_,rfl⟩
  have hb1:Below wr.heap.size wr W1:=by rw [<-hW1];exact (Below.refl _ wr).alloc (ab1 _) _
  have k1:aj W1 wr.heap.size 61 #[.string z, .int .i64 p.val.kind, .int .i64 p.val.num, .string zt, .slice An p.val.nums.length cn, .slice At p.val.texts.length ct]:=by rw [<-hW1];exact aj.new _ _ _
  have hBr:B<=wr.heap.size:=ab5 hB HQ.out.bel.size;have V7:=ah (HQ.out.below hb1)
  have uK:=(xP (cn:=cn) (ct:=ct) hpp.ok.val r1 r2).below (hb1.mono hBr);unfold ST at uK
  rw [aO] at uK
  have hcall:=aaG B _ p.val W1 uK (ab5 hBr hb1.size) (HL.out.below V7.out.bel)
  rw [show Cy.rV p.val=(Cy.lit p.val,0) by unfold Cy.rV;rw [ab7 hpp.val]] at hcall
  obtain ⟨zl,hzl⟩: ∃zl:ByteArray,(⟨(Cy.lit p.val).toArray⟩:ByteArray)=zl:=⟨_,rfl⟩
  simp only at hcall;rw [hzl] at hcall;have HC:=ah hcall;have HW1:=ah hW1;have aT:=ah k1
  have hzs:z.size<=40:=by rw [<-hz,bf];exact hpp.key
  have anW:zl.size<=400000:=by rw [<-hzl,bf];exact aaF hpp.val hpp.ok.val.nums hpp.ok.val.num
  have nX:=ah (show (⟨(Cy.iq p).toArray⟩:ByteArray)=z ++⟨#[58,32]⟩ ++ zl by unfold Cy.iq;apply adW;rw [<-hz,<-hzl];simp)
  have hq2:(z ++⟨#[58,32]⟩:ByteArray).size<=42:=by rw [adG];show z.size+2<=42;omega
  clear hW1 hb1 k1 uK hcall hz aO yh r1 r2 hBr hbB hpp hzl HQ
  go_upto_region 7 with fail
  rw [HW1.out];clear c0 c1 c2 c3 c4 c5 HW1;obtain ⟨d0,d1,d2,d3,d4,d5⟩:=yg aT.out
  go_wp2_with fail;refine HC.out.mono ?_;rintro e w3 ⟨rfl,hb3⟩
  have qo:=ah (V7.out.below hb3);have bJ:=ah (aT.out.below hb3 aT.out.lt)
  clear hb3 V7 d0 d1 d2 d3 d4 d5 HC;obtain ⟨d0,d1,d2,d3,d4,d5⟩:=yg bJ.out
  have hbg:=qo.out.bel.size;have hkl:k<1073741824:=by omega
  go_upto_region 8 with fail
  go_wp2_with (at_builtin;refine rP ?a1 (.tmp 23) (.tmp 29) 23 9 (.string ⟨#[]⟩) 16 ?a2 ?a3 ?a4 ?a5 ?a6 w.heap.size (.slice A2 k ca) k (LL.map ST) w3 ?a7 ?a8 (.string (z ++⟨#[58,32]⟩ ++ zl)) ?a9 ?a10 ?a11 ?a12 ?a13)
  case a2=>exact Tryz.underlying23
  case a3=>exact Fq
  case a5=>decide
  case a8=>exact qo.out.own
  case a11=>exact hkl
  case a12=>exact hbg
  all_goals first | rfl | skip
  intro v9 w9 aN bC dO aF;obtain ⟨A9,c9,rfl⟩:=aJ aN
  have iC:=ah (qo.out.next nX.out aN aF KA.out);clear aN bC dO aF d0 d1 d2 d3 d4 d5;go_wp2
  go_roundg g
  case measure=>omega
  exact ⟨k+1,c9,A9,int_eq (by omega),rfl,by have:=HK.out;omega,iC.out⟩
theorem Tt (sep:List UInt8): ∀l:List (List UInt8),(Cy.join sep l).length<=(l.map List.length).sum+sep.length*l.length
 | []=>by simp [Cy.join]
 | [a]=>by simp [Cy.join]
 | a :: b :: r=>by
  have ih:=Tt sep (b :: r);rw [Cy.join,dA,dA,adA,alG,acd,ao2,aoR];omega
theorem Tv {α:Type} (f:α->Nat) (c:Nat): ∀l:List α,(∀a∈l,f a<=c)->(l.map f).sum<=c*l.length
 | [],_=>by simp
 | a :: r,h=>by
  have:=h a (by simp)
  have:=Tv f c r fun x hx=>h x (ada _ hx)
  rw [adA,alG,acd,ao2,aoR];omega
theorem aaZ: ∀l:List ak.L,(l.map fun t=>(Lex.quote t).length).sum<=2*(l.map fun t=>2+t.length).sum
  +2*(l.map fun t=>2+t.length).sum
 | []=>by simp
 | a :: r=>by
  have:=aaZ r;have:=Lex.Ql a;simp only [adA,alG];omega
theorem aa0: ∀l:List ak.L,2*l.length<=(l.map fun t=>2+t.length).sum
 | []=>by simp
 | a :: r=>by
  have:=aa0 r;simp only [adA,alG,acd];omega
theorem aa1 {v:ak.V} (h:ak.check v=0) (hn: ∀n∈v.nums,ak.In64 n) (h0:ak.In64 v.num):(Cy.lit v).length<=7*Gr.kQ v+20:=by
 obtain ⟨p1,p2,p3,p4,p5,p6,p7,p8⟩:=ak.yU h;unfold ak.Unused at p3;simp only [aol] at p3
 obtain ⟨u1,u2,u3,u4⟩:=p3
 have hs: ∀k n:Int,ak.In64 n->k<=3->(Cy.scalar k n []).length<=24:=fun k n hn hk=>by
  have h1:=oC hn.1 hn.2;have h2:=Yy (ak.u64 n);unfold Cy.scalar
  split
  ·split<;> decide
  split
  ·omega
  split
  ·omega
  decide
 unfold Cy.lit Gr.kQ;by_cases h4:v.kind<4
 ·rw [ab7 (by omega),ab7 h4]
  have ht:v.text= []:=Decidable.not_not.1 fun e=>u2 ⟨e,by omega⟩
  have:=hs v.kind v.num h0 (by omega)
  rw [ht]
  split<;> omega
 by_cases h5:v.kind=4
 ·rw [ab7 (by omega),ab6 h4,ab7 h5]
  have:=Lex.Ql v.text;unfold Cy.scalar;rw [ab6 (by omega),ab6 (by omega),ab6 (by omega)]
  omega
 rw [ab6 (by omega),ab6 h4,ab6 h5]
 have hw:=I4 (v.kind - 4);have hj:=Tt [44,32] (Cy.parts v)
 have hp:(Cy.parts v).length=v.nums.length+v.texts.length:=by unfold Cy.parts;rw [dA,ace,ace]
 have hsum:((Cy.parts v).map List.length).sum+2*(Cy.parts v).length<=7*(v.nums.length*(if v.kind=5 then 1 else 8)+(v.texts.map fun t=>2+t.length).sum):=by
  rw [hp];unfold Cy.parts;rw [ade,ao0,aez,aez];by_cases h8:v.kind=8
  ·have hnn:v.nums= []:=Decidable.not_not.1 fun e=>u3 ⟨e,by omega⟩
   rw [hnn]
   have e:(List.length ∘ fun t=>Cy.scalar (v.kind - 4) 0 t)=fun t=>(Lex.quote t).length:=by
    funext t
    show (Cy.scalar (v.kind - 4) 0 t).length=_
    unfold Cy.scalar;rw [ab6 (by omega),ab6 (by omega),ab6 (by omega)]
   rw [e];have h1:=aaZ v.texts;have h2:=aa0 v.texts
   simp only [aek,List.sum_nil,adk,am8,akA];omega
  have htn:v.texts= []:=Decidable.not_not.1 fun e=>u4 ⟨e,by omega⟩
  rw [htn];simp only [aek,List.sum_nil,adk];by_cases h5:v.kind=5
  ·rw [ab7 h5]
   have:=Tv (List.length ∘ fun n=>Cy.scalar (v.kind - 4) n []) 5 v.nums fun n _=>by
    show (Cy.scalar (v.kind - 4) n []).length<=5
    unfold Cy.scalar;rw [ab7 (by omega)]
    split<;> decide
   omega
  rw [ab6 h5]
  have:=Tv (List.length ∘ fun n=>Cy.scalar (v.kind - 4) n []) 24 v.nums fun n hm=>hs _ n (hn n hm) (by omega)
  omega
 simp only [dA,acd,adk] at hj⊢
 split
 ·simp only [adk];omega
 simp only [acd];omega
theorem aa2: ∀ps:List Gr.P,(∀p∈ps,vP p)->(ps.map fun p=>(Cy.iq p).length).sum<=62*ps.length+7*Gr.bM ps
 | [],_=>by simp
 | p :: r,h=>by
  have ih:=aa2 r fun x hx=>h x (ada _ hx)
  have hp:=h p (by simp)
  have h1:=aa1 hp.val hp.ok.val.nums hp.ok.val.num;have h2:=hp.key;unfold Gr.bM at ih⊢
  simp only [adA,alG,acd]
  have h3:(Cy.iq p).length<=42+(7*Gr.kQ p.val+20):=by
   unfold Cy.iq;simp only [dA,acd,adk];omega
  omega
theorem Tz {ps:List Gr.P} (hl:ps.length<=16) (h: ∀p∈ps,vP p):(Cy.jL ps).length<=1040+7*Gr.bM ps:=by
 have h1:=aa2 ps h;have h2:=Tt [44,32] (ps.map Cy.iq);rw [aez,ace] at h2;unfold Cy.jL
 split
 ·simp
 have h3:(Cy.join [44,32] (ps.map Cy.iq)).length<=(ps.map fun p=>(Cy.iq p).length).sum+2*ps.length:=h2
 simp only [dA,acd,adk];omega
structure aa3 (n:Gr.N):Prop where
 ok:DW n
 pl:n.props.length<=16
 ps: ∀p∈n.props,vP p
 ll:n.labels.length<=8
 ls: ∀l∈n.labels,l.length<=40
structure aa4 (r:Gr.R):Prop where
 ok:Gl r
 tl:r.type.length<=40
 pl:r.props.length<=16
 ps: ∀p∈r.props,vP p
theorem TA {s:List UInt8} (h:Gr.dw s=true):s.length<=40:=by
 unfold Gr.dw at h;simp only [adr,acZ] at h;exact h.1.1.2
theorem aa5 {ps:List Gr.P} (hg:Gr.uq ps) (hk: ∀p∈ps,pV p): ∀p∈ps,vP p:=fun p hp=>⟨hk p hp,TA (hg.name p hp),hg.val p hp⟩
theorem Good.node {g:Gr.G} (h:Gr.Good g) (ok:xZ g): ∀n∈g.nodes,aa3 n:=fun n hn=>by
 obtain ⟨_,hg⟩:=h.nodes.mem hn;have hk:=ok.ns n hn
 refine ⟨hk,hg.props.len,aa5 hg.props hk.ps,hg.labels.len,fun l hl=> ?_⟩
 obtain ⟨j,hj,e⟩:=ad2 hl;exact TA (hg.labels.all j l (by rw [ab2 hj,e])).name
theorem Good.rel {g:Gr.G} (h:Gr.Good g) (ok:xZ g): ∀r∈g.au,aa4 r:=fun r hr=>by
 obtain ⟨_,hg⟩:=h.au.mem hr;have hk:=ok.rs r hr
 exact ⟨hk,TA hg.name,hg.props.len,aa5 hg.props hk.ps⟩
theorem ajb {n:Gr.N} (h:aa3 n):(Cy.bY n).length<=1420+7*Gr.bM n.props:=by
 have h1:=oC h.ok.id.1 h.ok.id.2;have h2:=Tz h.pl h.ps
 have h3:(n.labels.flatMap fun l=>58 :: l).length<=41*8:=by
  have:=Gr.Iz (f:=fun l:List UInt8=>(58:UInt8) :: l) (l:=n.labels) (c:=41) fun l hl=>by have:=h.ls l hl;simp only [acd];omega
  have:=h.ll;omega
 unfold Cy.bY Cy.jM;simp only [dA,acd,adk];omega
theorem aa6 {r:Gr.R} (h:aa4 r):(Cy.bD r).length<=1184+7*Gr.bM r.props:=by
 have h1:=oC h.ok.id.1 h.ok.id.2;have h2:=oC h.ok.src.1 h.ok.src.2
 have h3:=oC h.ok.dst.1 h.ok.dst.2;have h4:=Tz h.pl h.ps;have h5:=h.tl;unfold Cy.bD Cy.jM
 simp only [dA,acd,adk];omega
theorem TB {α:Type} (f:α->List UInt8) (q:α->List Gr.P) (c:Nat): ∀l:List α,(∀a∈l,(f a).length<=c+7*Gr.bM (q a))->(l.flatMap f).length<=c*l.length+7*Gr.bM (l.flatMap q)
 | [],_=>by simp
 | a :: r,h=>by
  have h1:=h a (by simp)
  have ih:=TB f q c r fun x hx=>h x (ada _ hx)
  unfold Gr.bM at h1 ih⊢;rw [adz,adz,dA,ade,ao0,acd,ao2,aoR];omega
theorem NI (g:Gr.G):Cy.print g=g.nodes.flatMap Cy.bY ++ g.au.flatMap Cy.bD:=by
 unfold Cy.print Cy.lines;rw [amY,amm,amm]
theorem TD {g:Gr.G} (h:Gr.Good g) (ok:xZ g):(Cy.print g).length<=8388608:=by
 have h1:=TB Cy.bY Gr.N.props 1420 g.nodes fun n hn=>ajb (Good.node h ok n hn)
 have h2:=TB Cy.bD Gr.R.props 1184 g.au fun n hn=>aa6 (Good.rel h ok n hn)
 have h3:=h.nodes.len;have h4:=h.au.len;have h5:=h.weight
 have h6:Gr.weight g=Gr.bM (g.nodes.flatMap Gr.N.props)+Gr.bM (g.au.flatMap Gr.R.props):=by
  unfold Gr.weight Gr.fH Gr.bM;rw [ade,ao0]
 rw [NI,dA];omega
theorem aj.others {w w':World} {g b:Nat} {t e:TypeId} {cs:Array Value} (h:aj w g t cs) (ho:Lib.OthersKept e (some b) w w') (hg:g≠b) (ht:t≠e):aj w' g t cs:=
 ho g _ h (fun x=>hg (acE x)) (fun _ _ x=>ht (by cases x;rfl))
structure yK (w:World) (b:Nat) (l:List UInt8) (V:World):Prop where
 bel:Below w.heap.size w V
 qX:gQ b b l V
 lt:w.heap.size<=b
 sz:b<V.heap.size
theorem yK.below {w V V':World} {b:Nat} {l:List UInt8} (h:yK w b l V) (hb:Below V.heap.size V V'):yK w b l V':=
 ⟨h.bel.trans (hb.mono h.bel.size),h.qX.below hb,h.lt,adf h.sz hb.size⟩
theorem yK.put {w V V':World} {b:Nat} {l l':List UInt8} (h:yK w b l V) (hl:gQ b b l' V') (hb:Below b V V'):yK w b l' V':=
 ⟨h.bel.trans (hb.mono h.lt),hl,h.lt,adf h.sz hb.size⟩
structure Ak (w:World) (b nd:Nat) (T:TypeId) (gc nc:Array Value) (l:List UInt8) (V:World):Prop where
 s:yK w b l V
 g:aj V w.heap.size 39 gc
 n:aj V nd T nc
 ne:nd≠b/\w.heap.size≠b/\T≠5
theorem Ak.below {w V V':World} {b nd:Nat} {T:TypeId} {gc nc:Array Value} {l:List UInt8} (h:Ak w b nd T gc nc l V) (hb:Below V.heap.size V V'):Ak w b nd T gc nc l V':=
 ⟨h.s.below hb,h.g.below hb h.g.lt,h.n.below hb h.n.lt,h.ne⟩
theorem Ak.put {w V V':World} {b nd:Nat} {T:TypeId} {gc nc:Array Value} {l l':List UInt8} (h:Ak w b nd T gc nc l V) (hl:gQ b b l' V') (hb:Below b V V') (ho:Lib.OthersKept 5 (some b) V V'):Ak w b nd T gc nc l' V':=
 ⟨h.s.put hl hb,h.g.others ho h.ne.2.1 (by decide),h.n.others ho h.ne.1 h.ne.2.2,h.ne⟩
theorem aa7 {α:Type} (l:List α) (k:Nat) (f:α->List UInt8):((l.take k).flatMap f).length<=(l.flatMap f).length:=by
 conv=>rhs;rw [<-adE k l]
 rw [ad4,dA];omega
theorem NJ (B:Nat) (u:Value) (g:Gr.G) (w:World) (h:fE w B u g) (hB:B<=w.heap.size) (hL:Laid w):
  Calls Tryz.prog 20 #[u] w fun e w'=>e= .returned (.tuple #[.string ⟨(Cy.lC g).1.toArray⟩, .int .i64 ((Cy.lC g).2:Nat)])/\Below w.heap.size w w':=by
 have HG:=ah h;have HL:=ah hL;have aK:=ah h.ok
 have hck:=fun (V:World) (hb:Below w.heap.size w V)=>aaX B u g V (h.below (hb.mono hB)) (ab5 hB hb.size)
 have hgood:=fun e0:(Gr.check g).1=0=>(Gr.xJ (g:=g)).1 e0
 have hlen:=fun e0:(Gr.check g).1=0=>TD (hgood e0) h.ok
 obtain ⟨R,hR⟩: ∃R,Cy.lC g=R:=⟨_,rfl⟩;rw [hR];unfold Cy.lC at hR
 obtain ⟨c1,hc1⟩: ∃c,(Gr.check g).1=c:=⟨_,rfl⟩
 obtain ⟨c2,hc2⟩: ∃c,(Gr.check g).2=c:=⟨_,rfl⟩;rw [hc1] at hR hgood hlen
 rw [hc1,hc2] at hck;obtain ⟨An,cn,Ar,cr,rfl,hN,hRl⟩:=h.ex
 obtain ⟨nn,hnn⟩: ∃n,g.nodes.length=n:=⟨_,rfl⟩;obtain ⟨rn,hrn⟩: ∃n,g.au.length=n:=⟨_,rfl⟩
 rw [hnn,hrn] at hck⊢
 obtain ⟨W1,hW1⟩: ∃W1,w.alloc (.cells #[.slice An nn cn, .slice Ar rn cr] 39)=W1:=⟨_,rfl⟩
 have hb1:Below w.heap.size w W1:=by rw [<-hW1];exact (Below.refl _ w).alloc (ab1 _) _
 have k1:aj W1 w.heap.size 39 #[.slice An nn cn, .slice Ar rn cr]:=by rw [<-hW1];exact aj.new _ _ _
 have HW1:=ah hW1;have aT:=ah k1;have HB1:=ah hb1;have aU:=ah (hck W1 hb1)
 have Cc:=ah hgood;have dF:=ah hlen;have HR:=ah hR;have HN:=ah hN;have aW:=ah hRl
 have anY:nn<=1073741824:=by rw [<-hnn];exact aK.out.nl
 have anZ:rn<=1073741824:=by rw [<-hrn];exact aK.out.rl
 have ay:=ah hnn;have gy:=ah hrn;have oQ:=ah hB;obtain ⟨a0,a1⟩:=cells2 k1
 clear h hL hck hgood hlen hR hN hRl hnn hrn hB hb1 hW1 k1 hc1 hc2
 go_enter Tryz.func20,Tryz.ntmps20
 go_upto_region 1 with fail
 rw [HW1.out];clear HW1;go_wp2_with fail;refine aU.out.mono ?_;rintro e w2 ⟨rfl,hb2⟩
 have HB2:=ah (HB1.out.trans (hb2.mono HB1.out.size))
 have aC:=ah (aT.out.below hb2 aT.out.lt);clear hb2 a0 a1 aU aT
 obtain ⟨a0,a1⟩:=cells2 aC.out;by_cases hc0:c1=0
 case neg=>
  have HRR:=ah (show R=([],c1) by rw [<-HR.out,ab6 hc0])
  have t0:((c1:Int) !=0)=true:=by rw [acV];omega
  clear hc0;go_wp2
  go_ret2
  exact ⟨by rw [HRR.out];rfl,HB2.out⟩
 subst hc0;have HRR:=ah (show R=(Cy.print g,0) by rw [<-HR.out,ab7 rfl])
 have iP:=ah (dF.out rfl);have adT:=ah (Cc.out rfl)
 have HNP:=ah (Good.node adT.out aK.out);have og:=ah (Good.rel adT.out aK.out)
 obtain ⟨b,hbb⟩: ∃b,w2.heap.size=b:=⟨_,rfl⟩
 obtain ⟨W3,hW3⟩: ∃W3,w2.alloc (.cells #[.pointer none, .slice none 0 0] 70)=W3:=⟨_,rfl⟩
 have HW3:=ah hW3
 have gq:=ah (show yK w b [] W3 by rw [<-hW3,<-hbb];exact ⟨HB2.out.alloc HB2.out.size _,gQ.fresh w2,HB2.out.size,by simp⟩)
 have bJ:=ah (show aj W3 w.heap.size 39 #[.slice An nn cn, .slice Ar rn cr] by rw [<-hW3];exact aC.out.alloc _)
 have aH:=ah hbb;have hgb:=aC.out.lt;rw [hbb] at hgb;clear hW3 dF Cc HR
 go_upto_region 5 with fail
 rw [HW3.out]
 try rw [hbb]
 clear a0 a1 aC HW3 hbb;obtain ⟨a0,a1⟩:=cells2 bJ.out
 have Jk:b≠w.heap.size:=fun e=>by rw [e] at hgb;exact Nat.lt_irrefl _ hgb
 go_wp2_with fail
 go_loopg [24] nn (fun q x wr=> ∃k:Nat,x= .int .i64 k/\k+q=nn/\yK w b ((g.nodes.take k).flatMap Cy.bY) wr/\aj wr w.heap.size 39 #[.slice An nn cn, .slice Ar rn cr])
 case atStart=>exact ⟨0,rfl,by omega,gq.out,bJ.out⟩
 obtain ⟨k,rfl,hk,hs,hkb⟩:=hrel;have HS:=ah hs;have HK:=ah hk;have HKB:=ah hkb;clear a0 a1
 obtain ⟨a0,a1⟩:=cells2 hkb;clear hs hkb gq bJ;cases gk with
 | succ q=>
  have hkn:k<nn:=by omega
  have dD:(k:Int)<nn:=by omega
  obtain ⟨n,hn⟩: ∃n,g.nodes[k]?=some n:=⟨_,ab2 (by rw [ay.out];exact hkn)⟩
  have hft:=QI hn Cy.bY
  have hpl:((g.nodes.take (k+1)).flatMap Cy.bY).length<=8388608:=by
   have h1:=aa7 g.nodes (k+1) Cy.bY;have h2:=iP.out;rw [NI,dA] at h2;omega
  rw [hft] at hpl;obtain ⟨L,hL⟩: ∃L,(g.nodes.take k).flatMap Cy.bY=L:=⟨_,rfl⟩
  rw [hL] at hpl hft HS;have hBW:=HS.out.bel.mono oQ.out
  obtain ⟨nb,o,Al,cl,Ap,cp,rfl,hbB,⟨D0,D1,D2⟩,hlr,hpr⟩:=HN.out.node hn
  have d0:=(hBW.cell (p:=⟨nb,o+k*3,none⟩) hbB).trans D0
  have d1:=(hBW.cell (p:=⟨nb,o+k*3+1,none⟩) hbB).trans D1
  have d2:=(hBW.cell (p:=⟨nb,o+k*3+2,none⟩) hbB).trans D2
  obtain ⟨ll,hll⟩: ∃ll,n.labels.length=ll:=⟨_,rfl⟩
  obtain ⟨pl,Ey⟩: ∃pl,n.props.length=pl:=⟨_,rfl⟩;rw [hll] at d1 hlr;rw [Ey] at d2
  have hnp:=HNP.out n (acf hn);have an0:ll<=8:=by rw [<-hll];exact hnp.ll
  obtain ⟨WN,aX⟩: ∃W,wr.alloc (.cells #[.int .i64 n.id, .slice Al ll cl, .slice Ap pl cp] 59)=W:=⟨_,rfl⟩
  have hbn:Below wr.heap.size wr WN:=by rw [<-aX];exact (Below.refl _ _).alloc (ab1 _) _
  have bU:=ah (HS.out.below hbn);have jH:=ah (HKB.out.below hbn HKB.out.lt)
  obtain ⟨nd,hnd⟩: ∃x,wr.heap.size=x:=⟨_,rfl⟩
  have kW:=ah (show aj WN nd 59 #[.int .i64 n.id, .slice Al ll cl, .slice Ap pl cp] by rw [<-aX,<-hnd];exact aj.new _ _ _)
  have kZ:=ah (show nd≠b/\nd≠w.heap.size by have:=HS.out.sz;have:=HS.out.lt;have:=HKB.out.lt;omega)
  have hnw:=fun (V:World) (hb:Below w.heap.size w V)=>Tq n.id V hnp.ok.id (HL.out.below hb)
  obtain ⟨zi,hzi⟩: ∃z:ByteArray,(⟨(110 :: Lib.itoa n.id).toArray⟩:ByteArray)=z:=⟨_,rfl⟩
  rw [hzi] at hnw;have C9:=ah hnw;have V8:=ah hzi
  have al8:zi.size<=22:=by rw [<-hzi,bf,acd];have:=oC hnp.ok.id.1 hnp.ok.id.2;omega
  have eG:=ah aX;have KT:=ah hnp;have KU:=ah hpl;have V9:=ah hft;have Ac:=ah hlr
  have dG:=ah hpr;have dR:=ah hll;have KW:=ah Ey
  clear hn hft hpl hL hBW hbB D0 D1 D2 hlr hpr hnp aX hbn hnw hzi HS HKB hll Ey hkn hk
  go_upto_region 8 with fail
  rw [eG.out]
  try rw [hnd]
  clear hnd a0 a1 d0 d1 d2;obtain ⟨d0,d1,d2⟩:=cells3 kW.out;obtain ⟨a0,a1⟩:=cells2 jH.out
  go_wp2_with fail;refine (C9.out WN bU.out.bel).mono ?_;rintro e w4 ⟨rfl,hb4⟩
  have Aq:=ah (show Ak w b nd 59 #[.slice (some ⟨nb,o,none⟩) nn cn, .slice Ar rn cr] #[.int .i64 n.id, .slice Al ll cl, .slice Ap pl cp] L w4 from ⟨bU.out.below hb4,jH.out.below hb4 jH.out.lt,kW.out.below hb4 kW.out.lt,kZ.out.1,Jk.symm,by decide⟩)
  clear hb4 bU jH kW a0 a1 d0 d1 d2 C9
  have kK:L.length<=8388608:=by have:=KU.out;rw [dA] at this;omega
  have hq1:(⟨#[67,82,69,65,84,69,32,40]⟩ ++ zi:ByteArray).size<=30:=by rw [adG];show 8+zi.size<=30;omega
  have HW1:=ah (xB b b L (⟨#[67,82,69,65,84,69,32,40]⟩ ++ zi) w4 Aq.out.s.qX (by omega) (by omega) (alS Aq.out.s.sz))
  go_wp2_with fail;refine HW1.out.mono ?_;rintro e w5 ⟨rfl,hl5,hb5,tN⟩
  obtain ⟨L1,hL1⟩: ∃L1,L ++(⟨#[67,82,69,65,84,69,32,40]⟩ ++ zi:ByteArray).data.toList=L1:=⟨_,rfl⟩
  rw [hL1] at hl5;have Ez:=ah (Aq.out.put hl5 hb5 tN)
  have dQ:=ah (show L1=L ++(Cy.jM ++ [32,40,110] ++ Lib.itoa n.id) by rw [<-hL1,<-V8.out];simp [Cy.jM])
  clear hl5 hb5 tN hL1 Aq HW1 hq1;obtain ⟨d0,d1,d2⟩:=cells3 Ez.out.n;go_wp2_with fail
  go_loopg [36] ll (fun q x wl=> ∃j:Nat,x= .int .i64 j/\j+q=ll/\Ak w b nd 59 #[.slice (some ⟨nb,o,none⟩) nn cn, .slice Ar rn cr] #[.int .i64 n.id, .slice Al ll cl, .slice Ap pl cp] (L1 ++(n.labels.take j).flatMap (fun l=>58 :: l)) wl)
  case atStart=>exact ⟨0,rfl,by omega,by rw [akd,amo,acK];exact Ez.out⟩
  obtain ⟨j,rfl,hj,hs⟩:=hrel;have HJ:=ah hj;have EC:=ah hs;clear hs d0 d1 d2;cases gk with
  | succ qi=>
   have hjl:j<ll:=by omega
   have an1:(j:Int)<ll:=by omega
   obtain ⟨pb,po,x,rfl,hpb,hx,hp⟩:=(Ac.out.below (EC.out.s.bel.mono oQ.out)).cell hjl
   rw [acJ] at hx;obtain ⟨y,hy,rfl⟩:=ac7.1 hx;unfold ST at hp
   obtain ⟨zy,hzy⟩: ∃z:ByteArray,(⟨y.toArray⟩:ByteArray)=z:=⟨_,rfl⟩;rw [hzy] at hp
   have hyl:=KT.out.ls y (acf hy);have an2:zy.size<=40:=by rw [<-hzy,bf];exact hyl
   have hlt:=QI hy (fun l=>(58:UInt8) :: l)
   obtain ⟨LJ,O8⟩: ∃LJ,L1 ++(n.labels.take j).flatMap (fun l=>58 :: l)=LJ:=⟨_,rfl⟩
   have an3:LJ.length<=8388608:=by
    have h1:=KU.out
    have e:n.labels.flatMap (fun l=>58 :: l)=(n.labels.take j).flatMap (fun l=>58 :: l) ++(n.labels.drop j).flatMap (fun l=>58 :: l):=by rw [<-ad4,adE]
    have h2:L ++ Cy.bY n=LJ ++((n.labels.drop j).flatMap (fun l=>58 :: l) ++ Cy.jL n.props ++ [41,59,10]):=by
     unfold Cy.bY;rw [e,<-O8,dQ.out];simp
    rw [h2,dA] at h1;omega
   rw [O8] at EC
   have hq1:(⟨#[58]⟩ ++ zy:ByteArray).size<=41:=by rw [adG];show 1+zy.size<=41;omega
   have HW1:=ah (xB b b LJ (⟨#[58]⟩ ++ zy) wr EC.out.s.qX (by omega) (by omega) (alS EC.out.s.sz))
   have aB:=ah (show L1 ++(n.labels.take (j+1)).flatMap (fun l=>58 :: l)=LJ ++(⟨#[58]⟩ ++ zy:ByteArray).data.toList by rw [hlt,<-O8,<-hzy];simp)
   clear hx hy hzy hyl hlt O8 hjl hj hpb;go_wp2_with fail;refine HW1.out.mono ?_
   rintro e w6 ⟨rfl,hl6,hb6,KX⟩;have yL:=ah (EC.out.put hl6 hb6 KX);clear hl6 hb6 KX
   go_wp2
   go_roundg qi
   case measure=>omega
   exact ⟨j+1,int_eq (by omega),by have:=HJ.out;omega,by rw [aB.out];exact yL.out⟩
  | zero=>
   obtain rfl:j=ll:=by omega
   have O9:=EC.out;rw [acg (by rw [dR.out];exact ab1 _)] at O9
   obtain ⟨L2,hL2⟩: ∃L2,L1 ++ n.labels.flatMap (fun l=>58 :: l)=L2:=⟨_,rfl⟩
   rw [hL2] at O9;have yL:=ah O9
   have hpm:=fun (V:World) (hb:Below w.heap.size w V)=>aaY B Ap cp n.props V (dG.out.below (hb.mono oQ.out) (aQ.below (hb.mono oQ.out))) (ab5 oQ.out hb.size) KT.out.pl KT.out.ps (HL.out.below hb)
   rw [KW.out] at hpm
   obtain ⟨zm,hzm⟩: ∃z:ByteArray,(⟨(Cy.jL n.props).toArray⟩:ByteArray)=z:=⟨_,rfl⟩
   rw [hzm] at hpm
   have al9:zm.size<=6500003:=by rw [<-hzm,bf];exact (Tn KT.out.pl KT.out.ps).2
   have yM:=ah hpm
   have KY:=ah (show L ++ Cy.bY n=L2 ++(zm ++⟨#[41,59,10]⟩:ByteArray).data.toList by rw [<-hL2,dQ.out,<-hzm];simp [Cy.bY])
   have an4:L2.length<=8388608:=by
    have h1:=KU.out;rw [KY.out,dA] at h1;omega
   have hq1:(zm ++⟨#[41,59,10]⟩:ByteArray).size<=6500006:=by rw [adG];show zm.size+3<=6500006;omega
   clear O9 hL2 hpm hzm hj EC;obtain ⟨d0,d1,d2⟩:=cells3 yL.out.n;go_wp2_with fail
   refine (yM.out wr yL.out.s.bel).mono ?_;rintro e w7 ⟨rfl,hb7⟩
   have Wh:=ah (yL.out.below hb7);clear hb7 yL d0 d1 d2
   have HW1:=ah (xB b b L2 (zm ++⟨#[41,59,10]⟩) w7 Wh.out.s.qX (by omega) (by omega) (alS Wh.out.s.sz))
   go_wp2_with fail;refine HW1.out.mono ?_;rintro e w8 ⟨rfl,lu,hb8,oh⟩
   have kY:=ah (Wh.out.put lu hb8 oh);clear lu hb8 oh;go_wp2
   go_roundg q
   case measure=>omega
   exact ⟨k+1,int_eq (by omega),by have:=HK.out;omega,by rw [V9.out,KY.out];exact kY.out.s,kY.out.g⟩
 | zero=>
  obtain rfl:k=nn:=by omega
  have hs:=HS.out;rw [acg (by rw [ay.out];exact ab1 _)] at hs
  have mZ:=ah hs;clear hs HS hk;go_wp2_with fail
  go_loopg [53] rn (fun q x wr=> ∃m:Nat,x= .int .i64 m/\m+q=rn/\yK w b (g.nodes.flatMap Cy.bY ++(g.au.take m).flatMap Cy.bD) wr/\aj wr w.heap.size 39 #[.slice An k cn, .slice Ar rn cr])
  case atStart=>exact ⟨0,rfl,by omega,by rw [akd,amo,acK];exact mZ.out,HKB.out⟩
  obtain ⟨m,rfl,hm,hs,hkb⟩:=hrel;have ED:=ah hkb;clear hkb;have HS:=ah hs;have HM:=ah hm
  clear hs mZ HKB a0 a1;cases gk with
  | zero=>
   obtain rfl:m=rn:=by omega
   have hs:=HS.out;rw [acg (by rw [gy.out];exact ab1 _),<-NI] at hs
   have HSF:=ah hs;have HC:=ah (Qz b b (Cy.print g) wr hs.qX (alS hs.sz));clear hs HS hm
   go_wp2_with fail;refine HC.out.mono ?_;rintro e w9 ⟨rfl,-,aF,-⟩
   have dh:=ah (HSF.out.bel.trans (aF.mono HSF.out.lt));clear aF;go_wp2
   go_ret2
   exact ⟨by rw [HRR.out];rfl,dh.out⟩
  | succ q=>
   have hmn:m<rn:=by omega
   have O5:(m:Int)<rn:=by omega
   obtain ⟨r,hr⟩: ∃r,g.au[m]?=some r:=⟨_,ab2 (by rw [gy.out];exact hmn)⟩
   have hft:=QI hr Cy.bD
   have hpl:(g.nodes.flatMap Cy.bY ++(g.au.take (m+1)).flatMap Cy.bD).length<=8388608:=by
    have h1:=aa7 g.au (m+1) Cy.bD;have h2:=iP.out;rw [NI,dA] at h2;rw [dA];omega
   rw [hft,<-acF] at hpl
   obtain ⟨L,hL⟩: ∃L,g.nodes.flatMap Cy.bY ++(g.au.take m).flatMap Cy.bD=L:=⟨_,rfl⟩
   have V9:=ah (show g.nodes.flatMap Cy.bY ++(g.au.take (m+1)).flatMap Cy.bD=L ++ Cy.bD r by rw [hft,<-acF,hL])
   rw [hL] at hpl HS;have hBW:=HS.out.bel.mono oQ.out
   obtain ⟨rb,o,Ap,cp,rfl,hbB,⟨D0,D1,D2,D3,D4⟩,hpr⟩:=aW.out.rel hr
   have d0:=(hBW.cell (p:=⟨rb,o+m*5,none⟩) hbB).trans D0
   have d1:=(hBW.cell (p:=⟨rb,o+m*5+1,none⟩) hbB).trans D1
   have d2:=(hBW.cell (p:=⟨rb,o+m*5+2,none⟩) hbB).trans D2
   have d3:=(hBW.cell (p:=⟨rb,o+m*5+3,none⟩) hbB).trans D3
   have d4:=(hBW.cell (p:=⟨rb,o+m*5+4,none⟩) hbB).trans D4
   obtain ⟨pl,Ey⟩: ∃pl,r.props.length=pl:=⟨_,rfl⟩;rw [Ey] at d4;have iQ:=og.out r (acf hr)
   obtain ⟨zt,aO⟩: ∃z:ByteArray,(⟨r.type.toArray⟩:ByteArray)=z:=⟨_,rfl⟩;unfold ST at d1
   rw [aO] at d1;have an5:zt.size<=40:=by rw [<-aO,bf];exact iQ.tl
   obtain ⟨WN,aX⟩: ∃W,wr.alloc (.cells #[.int .i64 r.id, .string zt, .int .i64 r.src, .int .i64 r.dst, .slice Ap pl cp] 63)=W:=⟨_,rfl⟩
   have hbn:Below wr.heap.size wr WN:=by rw [<-aX];exact (Below.refl _ _).alloc (ab1 _) _
   have bU:=ah (HS.out.below hbn);have jH:=ah (ED.out.below hbn ED.out.lt)
   obtain ⟨nd,hnd⟩: ∃x,wr.heap.size=x:=⟨_,rfl⟩
   have hk0:aj WN nd 63 #[.int .i64 r.id, .string zt, .int .i64 r.src, .int .i64 r.dst, .slice Ap pl cp]:=by rw [<-aX,<-hnd];exact aj.new _ _ _
   have hne:nd≠b:=by have:=HS.out.sz;omega
   have kW:=ah hk0;have kZ:=ah hne
   have e0:WN.cell? ⟨nd,0,none⟩=some (.int .i64 r.id):=hk0.cell 0
   have e1:WN.cell? ⟨nd,1,none⟩=some (.string zt):=hk0.cell 1
   have e2:WN.cell? ⟨nd,2,none⟩=some (.int .i64 r.src):=hk0.cell 2
   have q0:=fun n os=>nN (w:=WN) hk0.lt e0 n os
   have q1:=fun n os=>nN (w:=WN) hk0.lt e1 n os
   have q2:=fun n os=>nN (w:=WN) hk0.lt e2 n os
   obtain ⟨zs,hzs⟩: ∃z:ByteArray,(⟨(110 :: Lib.itoa r.src).toArray⟩:ByteArray)=z:=⟨_,rfl⟩
   obtain ⟨zi,hzi⟩: ∃z:ByteArray,(⟨(Lib.itoa r.id).toArray⟩:ByteArray)=z:=⟨_,rfl⟩
   have He:=HL.out.below bU.out.bel
   have C9:=ah (fun n os=>IQ (by have:=Tq r.src (wide WN n os) iQ.ok.src (He.below (xK WN n os));rw [hzs] at this;exact this))
   have HFI:=ah (fun n os=>IQ (by have:=Qn r.id (wide WN n os) iQ.ok.id.1 iQ.ok.id.2 (He.below (xK WN n os));rw [hzi] at this;exact this))
   have an6:zs.size<=22:=by rw [<-hzs,bf,acd];have:=oC iQ.ok.src.1 iQ.ok.src.2;omega
   have al8:zi.size<=21:=by rw [<-hzi,bf];exact oC iQ.ok.id.1 iQ.ok.id.2
   have s1:(⟨#[67,82,69,65,84,69,32,40]⟩ ++ zs:ByteArray).size<=30:=by rw [adG];show 8+zs.size<=30;omega
   have s2:(⟨#[67,82,69,65,84,69,32,40]⟩ ++ zs ++⟨#[41,45,91,114]⟩:ByteArray).size<=34:=by rw [adG];show _+4<=34;omega
   have s3:(⟨#[67,82,69,65,84,69,32,40]⟩ ++ zs ++⟨#[41,45,91,114]⟩ ++ zi:ByteArray).size<=55:=by rw [adG];omega
   have s4:(⟨#[67,82,69,65,84,69,32,40]⟩ ++ zs ++⟨#[41,45,91,114]⟩ ++ zi ++⟨#[58]⟩:ByteArray).size<=56:=by rw [adG];show _+1<=56;omega
   have s5:(⟨#[67,82,69,65,84,69,32,40]⟩ ++ zs ++⟨#[41,45,91,114]⟩ ++ zi ++⟨#[58]⟩ ++ zt:ByteArray).size<=96:=by rw [adG];omega
   have t1:(9223372036854775807<8+zs.size)=False:=ala (by omega)
   have t2:(9223372036854775807<8+zs.size+4)=False:=ala (by omega)
   have t3:(9223372036854775807<8+zs.size+4+zi.size)=False:=ala (by omega)
   have t4:(9223372036854775807<8+zs.size+4+zi.size+1)=False:=ala (by omega)
   have t5:(9223372036854775807<8+zs.size+4+zi.size+1+zt.size)=False:=ala (by omega)
   have kK:L.length<=8388608:=by rw [dA] at hpl;omega
   have eG:=ah aX;have EF:=ah iQ;have KU:=ah hpl;have dG:=ah hpr;have KW:=ah Ey
   have HZ:=ah (And.intro hzs (And.intro hzi aO))
   clear hr hft hpl hL hBW hbB D0 D1 D2 D3 D4 hpr iQ aX hbn hk0 hne hzs hzi aO He HS Ey hmn hm
   go_upto_region 19 with fail
   rw [eG.out]
   try rw [hnd]
   clear hnd d0 d1 d2 d3 d4;refine ZU 13 (by kernel_rfl) (by kernel_rfl) ?_
   simp only [akt,akd,adU,aeC]
   repeat (quiet_step (first | exact C9.out _ _ | exact HFI.out _ _ | fail))
   refine wpQuiet_nil ?_;rintro _ ⟨⟨qn,qos⟩,rfl⟩
   obtain ⟨WW,hWW⟩: ∃W,wide WN qn qos=W:=⟨_,rfl⟩;have hbw:=xK WN qn qos
   show wpList _ _ _ _ _ (wide WN qn qos)
   rw [hWW] at hbw⊢
   have Aq:=ah (show Ak w b nd 63 #[.slice An k cn, .slice (some ⟨rb,o,none⟩) rn cr] #[.int .i64 r.id, .string zt, .int .i64 r.src, .int .i64 r.dst, .slice Ap pl cp] L WW from ⟨bU.out.below hbw,jH.out.below hbw jH.out.lt,kW.out.below hbw kW.out.lt,kZ.out,Jk.symm,by decide⟩)
   clear hWW hbw bU jH kW e0 e1 e2 q0 q1 q2 t1 t2 t3 t4 t5 C9 HFI
   obtain ⟨zq,kX⟩: ∃z:ByteArray,(⟨#[67,82,69,65,84,69,32,40]⟩ ++ zs ++⟨#[41,45,91,114]⟩ ++ zi ++⟨#[58]⟩ ++ zt:ByteArray)=z:=⟨_,rfl⟩
   rw [kX] at s5
   have HW1:=ah (xB b b L zq WW Aq.out.s.qX (by omega) (by omega) (alS Aq.out.s.sz))
   try rw [kX]
   have HZQ:=ah kX;clear kX s1 s2 s3 s4;go_wp2_with fail;refine HW1.out.mono ?_
   rintro e w5 ⟨rfl,hl5,hb5,tN⟩;obtain ⟨L1,hL1⟩: ∃L1,L ++ zq.data.toList=L1:=⟨_,rfl⟩
   rw [hL1] at hl5;have Ez:=ah (Aq.out.put hl5 hb5 tN)
   have dQ:=ah (show L1=L ++(Cy.jM ++ [32,40,110] ++ Lib.itoa r.src ++ [41,45,91,114] ++ Lib.itoa r.id ++ [58] ++ r.type) by rw [<-hL1,<-HZQ.out,<-HZ.out.1,<-HZ.out.2.1,<-HZ.out.2.2];simp [Cy.jM])
   clear hl5 hb5 tN hL1 Aq HW1;have hk0:=Ez.out.n
   have e3:w5.cell? ⟨nd,3,none⟩=some (.int .i64 r.dst):=hk0.cell 3
   have e4:w5.cell? ⟨nd,4,none⟩=some (.slice Ap pl cp):=hk0.cell 4
   have q3:=fun n os=>nN (w:=w5) hk0.lt e3 n os
   have q4:=fun n os=>nN (w:=w5) hk0.lt e4 n os
   obtain ⟨zd,hzd⟩: ∃z:ByteArray,(⟨(110 :: Lib.itoa r.dst).toArray⟩:ByteArray)=z:=⟨_,rfl⟩
   obtain ⟨zm,hzm⟩: ∃z:ByteArray,(⟨(Cy.jL r.props).toArray⟩:ByteArray)=z:=⟨_,rfl⟩
   have EH:=fun n os=>Ez.out.s.bel.trans ((xK w5 n os).mono Ez.out.s.bel.size)
   have C9:=ah (fun n os=>IQ (by have:=Tq r.dst (wide w5 n os) EF.out.ok.dst (HL.out.below (EH n os));rw [hzd] at this;exact this))
   have yM:=ah (fun n os=>IQ (by have:=aaY B Ap cp r.props (wide w5 n os) (dG.out.below ((EH n os).mono oQ.out) (aQ.below ((EH n os).mono oQ.out))) (ab5 oQ.out (EH n os).size) EF.out.pl EF.out.ps (HL.out.below (EH n os));rw [hzm,KW.out] at this;exact this))
   have an7:zd.size<=22:=by rw [<-hzd,bf,acd];have:=oC EF.out.ok.dst.1 EF.out.ok.dst.2;omega
   have al9:zm.size<=6500003:=by rw [<-hzm,bf];exact (Tn EF.out.pl EF.out.ps).2
   have t1:(9223372036854775807<zm.size+4)=False:=ala (by omega)
   have t2:(9223372036854775807<zm.size+4+zd.size)=False:=ala (by omega)
   have t3:(9223372036854775807<zm.size+4+zd.size+3)=False:=ala (by omega)
   have KY:=ah (show L ++ Cy.bD r=L1 ++(zm ++⟨#[93,45,62,40]⟩ ++ zd ++⟨#[41,59,10]⟩:ByteArray).data.toList by rw [dQ.out,<-hzm,<-hzd];simp [Cy.bD])
   have HZ2:=ah (And.intro hzd hzm);have Ew:=ah EH;clear hk0 EH hzd hzm
   go_upto_region 20 with fail
   refine ZU 9 (by kernel_rfl) (by kernel_rfl) ?_
   simp only [akt,akd,adU,aeC]
   repeat (quiet_step (first | exact C9.out _ _ | exact yM.out _ _ | fail))
   refine wpQuiet_nil ?_;rintro _ ⟨⟨Wi,Wj⟩,rfl⟩
   obtain ⟨WV,hWV⟩: ∃W,wide w5 Wi Wj=W:=⟨_,rfl⟩;have hbw:=xK w5 Wi Wj
   show wpList _ _ _ _ _ (wide w5 Wi Wj)
   rw [hWV] at hbw⊢;have yL:=ah (Ez.out.below hbw)
   clear hWV hbw e3 e4 q3 q4 t1 t2 t3 C9 yM Ew
   obtain ⟨Wn,Pe⟩: ∃z:ByteArray,(zm ++⟨#[93,45,62,40]⟩ ++ zd ++⟨#[41,59,10]⟩:ByteArray)=z:=⟨_,rfl⟩
   have qR:=ah (show L ++ Cy.bD r=L1 ++ Wn.data.toList by rw [KY.out,Pe])
   have an8:Wn.size<=6500040:=by rw [<-Pe];simp only [adG];show zm.size+4+zd.size+3<=_;omega
   have an9:L1.length<=8388608:=by
    have h1:=KU.out;rw [qR.out,dA] at h1;omega
   have HW2:=ah (xB b b L1 Wn WV yL.out.s.qX (by omega) (by omega) (alS yL.out.s.sz))
   try rw [Pe]
   clear Pe KY;go_wp2_with fail;refine HW2.out.mono ?_;rintro e w8 ⟨rfl,lu,hb8,oh⟩
   have kY:=ah (yL.out.put lu hb8 oh);clear lu hb8 oh;go_wp2
   go_roundg q
   case measure=>omega
   exact ⟨m+1,int_eq (by omega),by have:=HM.out;omega,by rw [V9.out,qR.out];exact kY.out.s,kY.out.g⟩
def Hf:List UInt8:= [67,82,69,65,84,69,32,40,110,49,41,44,32,40,110,48,58,65,32,123,107,58,32,91,58,105,110,116,32,49,93,125,41,44,32,40,110,48,41,45,91,114,48,58,84,93,45,62,40,110,49,41,59]
def Wp:List UInt8:= [67,82,69,65,84,69,32,40,110,48,58,65,32,123,107,58,32,91,58,105,110,116,32,49,93,125,41,59,10,67,82,69,65,84,69,32,40,110,49,41,59,10,67,82,69,65,84,69,32,40,110,48,41,45,91,114,48,58,84,93,45,62,40,110,49,41,59,10]
def Pg:List UInt8:= [67,82,69,65,84,69,32,40,110,48,41]
def EI:Gr.N:=⟨0, [[65]], [⟨[107],⟨6,0, [], [1], []⟩⟩]⟩
def EJ:Gr.N:=⟨1, [], []⟩
def Jc:Gr.G:=⟨[EI,EJ], [⟨0, [84],0,1, []⟩]⟩
def TF:Gr.G:=⟨[EJ,EI], [⟨0, [84],0,1, []⟩]⟩
theorem ajc:Gr.canon TF=Jc:=by
 have e0:Gr.rU EI=EI:=by
  have h1:Gr.xF [[65]]= [[65]]:=am3 _
  have h2:Gr.uo [⟨[107],⟨6,0, [], [1], []⟩⟩]= [⟨[107],⟨6,0, [], [1], []⟩⟩]:=am3 _
  unfold Gr.rU EI;rw [h1,h2]
 have e1:Gr.rU EJ=EJ:=by
  have h1:Gr.xF []= []:=alz;have h2:Gr.uo []= []:=alz;unfold Gr.rU EJ;rw [h1,h2]
 have e2:Gr.vK ⟨0, [84],0,1, []⟩=⟨0, [84],0,1, []⟩:=by
  have h2:Gr.uo []= []:=alz;unfold Gr.vK;rw [h2]
 have e3: [EI,EJ]=Gr.nJ (fun a b:Int=>decide (a<=b)) Gr.N.id [EJ,EI]:=aax SI (by decide) (List.Perm.swap _ _ _) (by decide)
 have e4:Gr.nJ (fun a b:Int=>decide (a<=b)) Gr.R.id [(⟨0, [84],0,1, []⟩:Gr.R)]= [⟨0, [84],0,1, []⟩]:=am3 _
 unfold Gr.canon TF Jc;simp only [adA,aek,e0,e1,e2,e4];rw [<-e3]
theorem ajd:(Gr.check Jc).1=0:=by kernel_rfl
theorem aje:(Lex.read Hf).2=none:=by kernel_rfl
theorem ajf:(Cy.patterns (Lex.read Hf).1).map (Cy.make Gr.G0)=some (TF,0):=by kernel_rfl
theorem aa8:Cy.parse Hf=(Jc,0):=by
 obtain ⟨ps,h1,h2⟩:=ac7.1 ajf;unfold Cy.parse;simp only [aje,h1,h2,ajc,ajd];simp
theorem ajg:Cy.parse Pg=(Gr.G0,250):=by kernel_rfl
theorem ajh:Cy.lC Jc=(Wp,0):=by kernel_rfl
theorem aji:Cy.rV ⟨8,0, [], [], []⟩=([91,58,116,101,120,116,93],0):=by kernel_rfl
theorem Jd (w:World) (hL: ∀V,Below w.heap.size w V->Laid V):Calls Tryz.prog 16 #[] w fun e w'=>e= .returned (.bool true)/\Below w.heap.size w w':=by
 have hp1:=FY ⟨Hf.toArray⟩ (by decide) w hL
 rw [show (⟨Hf.toArray⟩:ByteArray).data.toList=Hf from rfl,aa8] at hp1
 have OV:=ah hp1;have HL:=ah hL;clear hp1 hL;go_enter Tryz.func16,Tryz.ntmps16
 go_wp2_with fail;refine OV.out.mono ?_;rintro e w1 ⟨u,rfl,hg,hb⟩
 have oq:=hg.yH (Cy.ahd aa8).1.ok
 obtain ⟨A1,c1,A2,c2,Al,cl,g,rfl,rfl,hcell⟩: ∃A1 c1 A2 c2 Al cl g,u= .agg #[.slice A1 2 c1, .slice A2 1 c2]/\A1=some ⟨g,0,none⟩/\w1.cell? ⟨g,1,none⟩=some (.slice Al 1 cl):=by
  obtain ⟨sn,sr,ln,lr,rfl,q1,q2,q3,q4,q5,q6⟩:=hg;obtain ⟨A1,c1,rfl⟩:=aJ q3
  obtain ⟨A2,c2,rfl⟩:=aJ q6;cases ln with
  | nil=>cases q1
  | cons x r=>
   obtain ⟨x0,cs⟩:=x;obtain ⟨sl,sp,e,o1,-⟩:=q2 _ (am5 ..);obtain ⟨Al,cl,rfl⟩:=aJ o1
   injection q1 with q1 _
   simp only at q1 e;subst q1 e;obtain ⟨g,e,-,hc,-⟩:=qI q3 (t:=1) (by decide)
   exact ⟨A1,c1,A2,c2,Al,cl,g,rfl,e,hc⟩
 have hb2:Below w1.heap.size w1 (w1.alloc (.cells #[.slice (some ⟨g,0,none⟩) 2 c1, .slice A2 1 c2] 39)):=(Below.refl _ _).alloc (ab1 _) _
 obtain ⟨d0,d1⟩:=cells2 (aj.new w1 39 #[.slice (some ⟨g,0,none⟩) 2 c1, .slice A2 1 c2])
 have e1:(w1.alloc (.cells #[.slice (some ⟨g,0,none⟩) 2 c1, .slice A2 1 c2] 39)).cell? ⟨g,1,none⟩=some (.slice Al 1 cl):=(hb2.cell (World.block_lt_of_cell? w1 _ hcell)).trans hcell
 have hpr:=NJ w1.heap.size _ _ _ (oq.below hb2) (by simp) (HL.out _ (hb.trans (hb2.mono hb.size)))
 rw [ajh] at hpr;have dG:=ah hpr;have HB2:=ah (hb.trans (hb2.mono hb.size))
 clear hg oq hb hb2 hcell hpr OV;go_wp2_with fail;refine dG.out.mono ?_
 rintro e w3 ⟨rfl,b3⟩;obtain ⟨z2,hz2⟩: ∃z:ByteArray,(⟨Wp.toArray⟩:ByteArray)=z:=⟨_,rfl⟩
 rw [hz2];have t2:z2.toList=Wp:=by rw [<-hz2];exact xM _
 have hb3:=HB2.out.trans (b3.mono HB2.out.size)
 have hp3:=FY ⟨Pg.toArray⟩ (by decide) w3 (fun V hV=>HL.out V (hb3.trans (hV.mono hb3.size)))
 rw [show (⟨Pg.toArray⟩:ByteArray).data.toList=Pg from rfl,ajg] at hp3
 have D9:=ah hp3;have HB3:=ah hb3;clear hz2 hp3 hb3 b3 dG HB2;go_wp2_with fail
 refine D9.out.mono ?_;rintro e w4 ⟨u4,rfl,hg4,b4⟩
 obtain ⟨A4,c4,A5,c5,rfl⟩: ∃A c B d,u4= .agg #[.slice A 0 c, .slice B 0 d]:=by
  obtain ⟨sn,sr,ln,lr,rfl,-,-,h3,-,-,h6⟩:=hg4;obtain ⟨A,c,rfl⟩:=aJ h3
  obtain ⟨B,d,rfl⟩:=aJ h6;exact ⟨A,c,B,d,rfl⟩
 have hb4:Below w.heap.size w (w4.alloc (.cells #[.slice A4 0 c4, .slice A5 0 c5] 39)):=(HB3.out.trans (b4.mono HB3.out.size)).alloc (ab5 HB3.out.size b4.size) _
 have oV:=aaG 0 (.agg #[.int .i64 8, .int .i64 0, .string ⟨#[]⟩, .slice none 0 0, .slice none 0 0]) ⟨8,0, [], [], []⟩ (w4.alloc (.cells #[.slice A4 0 c4, .slice A5 0 c5] 39)) ⟨⟨none,0,none,0,rfl,Reads.none_,Reads.none_⟩,⟨by decide,by decide⟩,⟨by decide,by decide⟩,by simp,by simp,by simp,by simp,by simp⟩ (anN _) (HL.out _ hb4)
 rw [aji] at oV;have lX:=ah oV;have HB4:=ah hb4;clear hg4 b4 oV hb4 D9 HB3
 go_wp2_with fail;refine lX.out.mono ?_;rintro e w5 ⟨rfl,b5⟩
 have bZ:=ah (HB4.out.trans (b5.mono HB4.out.size));clear b5;go_wp2_with fail;go_ret
 exact ⟨rfl,bZ.out⟩
end Go.Proofs.YtoofbflplhbpbaaGreatDoor
