/- Lemmas. -/
import Derived.Test.YtdijgcnlbfgkdaaGreatDoorUP30
set_option maxHeartbeats 64000000
set_option maxRecDepth 1000000
set_option linter.all false
namespace Go.Proofs.YtdijgcnlbfgkdaaGreatDoor
open Go Go.RowKit Go.Proofs.Tryz
variable {P:Program} {md:Region.Mode} {Q:Exit->Act->World->Prop}
def Le (P:Program) (ops:Array Oper) (N:Nat) (Q:Exit->Act->World->Prop):Exit->Act->World->Prop
 |.normal,a,w=>wpOp P ops Q N (fun a w=>Q .normal a w) a w
 |e,a,w=>Q e a w
def al4 {ops:Array Oper} {N:Nat} {o:Oper} {a:Act} {w:World} {K K':Act->World->Prop} (h: ∀a w,K a w->K' a w) (hh:o.wp P a w K (Le P ops N Q)):o.wp P a w K' Q:=by
 have h0:=Oper.wp_mono h hh;clear hh;unfold Oper.wp at*
 generalize (execOp a.eval o).run P w=r at*
 cases r with
 |ok n w'=>
  cases n<;>simp only[Oper.upon]at h0⊢<;>
   first
    |exact h0
    |exact Calls.mono h0 (fun e w'' he=>by cases e<;>first|exact he|exact(fun x=>he x))
 |halt x w'=>cases x<;>simp only[Oper.upon]at h0⊢<;>exact h0
structure pO (md:Region.Mode) (ops S:Array Oper) (N:Nat) (ls l:Array Bool):Prop where
 inv:HeadInv md ops N l
 size:ls.size=N
 same: ∀j,ls.getD j false=l.getD j false
structure Jc (md:Region.Mode) (ops S:Array Oper) (N:Nat):Prop where
 short: ∀j,j<N->S[j]?=ops[j]?
 none_: ∀j,N<=j->S[j]?=none
 size:ops.size=N+1
 calm: ∀(j:Nat) oj,ops[j]?=some oj->oj.guard=none
 edge: ∀(j:Nat) oj,ops[j]?=some oj-> ∀e∈oj.after,e.on<j
 sink:Region.sinkB md ops N=true
section
variable {ops S:Array Oper} {N:Nat} {ls l:Array Bool}
def Qz {l:Array Bool} {j:Nat} (h:j<l.size):l.getD j true=l.getD j false:=by simp[h]
def pO.at_ (h:pO md ops S N ls l) (hs:ops.size=N+1) {j:Nat} (hj:j<N):ls.getD j true=l.getD j true:=by
 rw[Qz (by rw[h.size];exact hj),Qz (by rw[h.inv.size,hs];omega),h.same]
def pO.ready (h:pO md ops S N ls l) (k:Jc md ops S N) {j:Nat} (hj:j<N):j∈Region.ready md S ls↔j∈Region.ready md ops l:=by
 rw[asV,asV,h.at_ k.size hj,k.short j hj];simp only[h.same]
def pO.set (h:pO md ops S N ls l) {i:Nat} (hi:i∈Region.ready md ops l) (hin:i<N):pO md ops S N (ls.setIfInBounds i true) (l.setIfInBounds i true):=by
 refine⟨h.inv.set hi hin,by simp[h.size],fun j=> ?_⟩
 by_cases e:i=j
 ·subst e
  have h1:i<ls.size:=by rw[h.size];exact hin
  have h2:i<l.size:=by
   obtain⟨_,o,ho,_⟩:=asV.1 hi;rw[h.inv.size];exact(afb.1 ho).1
  simp[h1,h2]
 rw[atD false e,atD false e];exact h.same j
def pO.all (h:pO md ops S N ls l) (k:Jc md ops S N) (hr:Region.ready md S ls=[]): ∀n j,j<n->j<N->l.getD j false=true
 |0,j,hj,_=>by omega
 |n+1,j,hj,hN=>by
  by_cases hjn:j<n
  ·exact pO.all h k hr n j hjn hN
  have hall:=pO.all h k hr n;cases hl:l.getD j false with
  |true=>rfl
  |false=>
   exfalso
   have hlt:j<ops.size:=by rw[k.size];omega
   have hm:j∈Region.ready md ops l:=asV.2 ⟨by rw[Qz (by rw[h.inv.size];exact hlt)];exact hl,ops[j],anE hlt,fun e he _=>by
    have:=k.edge j _ (anE hlt) e he
    exact hall e.on (by omega) (by omega)⟩
   have:=(h.ready k hN).2 hm;rw[hr]at this;cases this
def pO.last (h:pO md ops S N ls l) (k:Jc md ops S N) (hr:Region.ready md S ls=[]):N∈Region.ready md ops l:=by
 have hlt:N<ops.size:=by rw[k.size];omega
 exact asV.2 ⟨h.inv.tail N (aej _) hlt,ops[N],anE hlt,fun e he _=>by
  have:=k.edge N _ (anE hlt) e he
  exact h.all k hr (e.on+1) e.on (by omega) this⟩
def pO.over (h:pO md ops S N ls l) (k:Jc md ops S N) (hr:Region.ready md S ls=[]):Region.ready md ops (l.setIfInBounds N true)=[]:=by
 refine List.eq_nil_iff_forall_not_mem.2 fun j hj=> ?_
 obtain⟨h0,o,ho,_⟩:=asV.1 hj;have hlt:=(afb.1 ho).1;rw[k.size]at hlt;have hs:(l.setIfInBounds N true).size=N+1:=by simp[h.inv.size,k.size]
 rw[Qz (by rw[hs];exact hlt)]at h0
 by_cases e:j=N
 ·subst e
  have:j<l.size:=by rw[h.inv.size,k.size];omega
  simp[this]at h0
 rw[atD false (atx e),h.all k hr (j+1) j (by omega) (by omega)]at h0
 cases h0
def al5 {md:Region.Mode} {ops:Array Oper} {l:Array Bool} (h:Region.ready md ops l=[]): ∀(m:Nat) (a:Act) (w:World),Q .normal a w->wpAny P md ops Q m l a w
 |0,_,_,hq=>⟨h,hq⟩
 |m+1,_,_,hq=>⟨fun _=>hq,fun i hi=>by rw[h]at hi;cases hi⟩
def al6 (k:Jc md ops S N): ∀(f:Nat) (ls l:Array Bool) (a:Act) (w:World),pO md ops S N ls l->wpAny P md S (Le P ops N Q) f ls a w->wpAny P md ops Q (f+1) l a w:=by
 have hc:Region.chainB md ops N=true:=by
  unfold Region.chainB;rw[ahx];intro t ht;have:=aou.1 ht;rw[k.size]at this;simp only[anO,aeU];exact .inl (by omega)
 have hN:N<ops.size:=by rw[k.size];omega
 have fin: ∀(m:Nat) (ls l:Array Bool) (a:Act) (w:World),pO md ops S N ls l->Region.ready md S ls=[]->Le P ops N Q .normal a w->wpAny P md ops Q (m+1) l a w:=fun m ls l a w hi hr hq=>by
  refine⟨fun h0=>(by have:=hi.last k hr;rw[h0]at this;cases this),fun i hm=> ?_⟩
  have hiN:i=N:=by
   obtain⟨h0,o,ho,_⟩:=asV.1 hm;have hlt:=(afb.1 ho).1;rw[k.size]at hlt
   rcases ahi i N with h1|h1
   ·exfalso
    have:=(hi.ready k h1).2 hm;rw[hr]at this;cases this
   omega
  subst hiN;exact wpOp_mono (fun a w h=>al5 (hi.over k hr) m a w h) hq
 intro f
 induction f with
 |zero=>intro ls l a w hi h;exact fin 0 ls l a w hi h.1 h.2
 |succ f ih=>
  intro ls l a w hi h;by_cases hr:Region.ready md S ls=[]
  ·exact fin (f+1) ls l a w hi hr (h.1 hr)
  obtain⟨j0,hj0⟩:=List.exists_mem_of_ne_nil _ hr
  have agG:j0<N:=by
   obtain⟨_,o,ho,_⟩:=asV.1 hj0
   rcases ahi j0 N with h1|h1
   ·exact h1
   rw[k.none_ j0 h1]at ho;cases ho
  have hj1:=(hi.ready k agG).1 hj0;refine⟨fun h0=>(by rw[h0]at hj1;cases hj1),fun i hm=> ?_⟩
  have hiN:i<N:=by
   rcases ahi i N with h1|h1
   ·exact h1
   exact absurd hm (tail_waits k.sink hc hN hi.inv _ j0 rfl agG (asV.1 hj1).1 i h1)
  have h2:=h.2 i ((hi.ready k hiN).2 hm);obtain⟨_,o,ho,_⟩:=asV.1 hm;unfold wpOp at h2⊢;rw[k.short i hiN,ho]at h2;rw[ho];simp only at h2⊢;have hw: ∀y,Region.wanted o y=true:=fun y=>by unfold Region.wanted;rw[k.calm i o ho]
  rw[aeu (hw _)]at h2⊢;exact h2.imp (al4 fun a w hx=>ih _ _ a w (hi.set hm hiN) hx) id
def lastB (L:List Oper) (n:Nat):Bool:=(L.length == n+1) &&(L.all (fun o=>o.guard.isNone) &&((List.range (n+1)).all (fun j=>(L[j]?).all fun oj=>oj.after.all fun e=>decide (e.on<j)) && Region.sinkB .any L.toArray n))
def Lh {id:Nat} {a:Act} {w:World} {L:List Oper} (n:Nat) (R:World->Prop) (hm:P.follows .mixedOrders=true) (hB:lastB L n=true)
  (hS:R w.drew) (h:R w.drew->wpAnyH P .any (L.take n).toArray (Le P L.toArray n Q) R n (Array.replicate n false) a w.drew):(Code.region id L.toArray true).wp P Q a w:=by
 unfold lastB at hB;simp only[afx,afc]at hB;obtain⟨h0,h1,h2,h3⟩:=hB
 have k:Jc .any L.toArray (L.take n).toArray n:=by
  refine⟨fun j hj=> ?_,fun j hj=> ?_,by simpa using h0,fun j oj hj=> ?_,fun j oj hj e he=> ?_,h3⟩
  ·rw[aeN,aeN,apr,aeu hj]
  ·rw[aeN];exact ag2 (by rw[afo];omega)
  ·rw[aeN]at hj
   have:=ahx.1 h1 oj (aew hj);exact Option.isNone_iff_eq_none.1 this
  rw[aeN]at hj;have hlt:=(aeK.1 hj).1;have:=ahx.1 h2 j (aou.2 (by omega))
  rw[hj]at this;simp only[Option.all_some,Array.all_eq_true_iff_forall_mem,aeU]at this;exact this e he
 refine wp_region_any hm ?_
 have hi:pO .any L.toArray (L.take n).toArray n (Array.replicate n false) (Array.replicate L.toArray.size false):=
  ⟨⟨by simp,fun j oj _ hl=>(by rw[asQ]at hl;cases hl),fun t _ ht=>getD_in (by simpa using ht) (asQ _ _)⟩,by simp,fun j=>by rw[asQ,asQ]⟩
 have:=al6 k n _ _ a _ hi (wpAny_of_held _ _ _ _ (h hS));have hz:L.toArray.size=n+1:=by simpa using h0
 rw[hz]at this⊢;exact this
def Lj {o:Oper} {a:Act} {w:World} (ho:ops[N]?=some o) (h: ∀K':Act->World->Prop,Shut (∀a w,Q .normal a w->K' a w)->if Region.wanted o (yielded ops a.tmps)=true then Oper.wp P o a w K' Q else K' (a.put o.dst undef) w):Le P ops N Q .normal a w:=
 wpOp_step ho fun K' hK=>h K' hK
end
end Go.Proofs.YtdijgcnlbfgkdaaGreatDoor
namespace Go.Proofs.YtdijgcnlbfgkdaaGreatDoor
open Go Go.RowKit Go.Proofs.Tryz
variable {P:Program} {ops:Array Oper} {Q:Exit->Act->World->Prop} {md:Region.Mode} {S:World->Prop}
def bZ (i:Nat) {oi:Oper} {v:Value} {fuel:Nat} {listed:Array Bool} {a:Act} {w:World} (hS:S w) (h:wpAnyH P md ops Q S fuel (listed.setIfInBounds i true) (a.put oi.dst v) w)
  (hi:ops[i]?=some oi:=by simp only[aeN,aeQ,aev];rfl) (hs:Region.noSelect ops=true:=by kernel_rfl) (hf:Region.free md ops listed i=true:=by kernel_rfl)
  (hr:(Region.ready md ops listed).contains i=true:=by kernel_rfl) (hQ: ∀c a w,Q (.panic c) (a.put oi.dst v) w->Q (.panic c) a w:=by intro _ _ _ h;exact h) (hw:Region.wanted oi (yielded ops a.tmps)=true:=by rfl)
  (hv: ∀wq,S wq->(execOp a.eval oi).run P wq=.ok (.value v) wq:=by intro wq hSw;(try dsimp only at hSw);(try go_simp);(try with_reducible rfl)):wpAnyH P md ops Q S (fuel+1) listed a w:=
 wpAnyH_take hi hs hf hr hQ (.inl ⟨hw,hv⟩) hS h
end Go.Proofs.YtdijgcnlbfgkdaaGreatDoor
namespace Go.Proofs.YtdijgcnlbfgkdaaGreatDoor
open Go.RowKit Go.Proofs.Tryz
attribute [local go_sem] ar4
def Cy.al7 {g:Gr.G} {p:Cy.aI} {x:Cy.L} (hp:p.names=[x]):Cy.zS g p=
  if(Cy.endP g p.first).2≠0 then(g,(Cy.endP g p.first).2) else if Cy.iK 114 2048 p.word<0 then(g,62) else if Cy.iK 114 2048 p.word∈g.ay.map Gr.R.id then(g,7) else if Gr.fD x=false then(g,60) else
  if Cy.dJ [] p.props≠0 then(g,Cy.dJ [] p.props) else(⟨g.nodes,g.ay++[⟨Cy.iK 114 2048 p.word,x,(Cy.endP g p.first).1,(Cy.endP g p.other).1,p.props⟩]⟩,(Cy.endP g p.other).2):=by
 unfold Cy.zS;rw[Cy.V8,hp];by_cases h0:(Cy.endP g p.first).2≠0
 ·rw[aeu h0,aeu h0]
 rw[aer h0,aer h0];by_cases h1:Cy.iK 114 2048 p.word<0
 ·rw[aeu h1,aeu h1]
 rw[aer h1,aer h1];rfl
def Cy.adJ {g:Gr.G} {l:Cy.L} (h:(Cy.endP g l).2=0):(Cy.endP g l).1=Cy.iK 110 1024 l:=by
 unfold Cy.endP at h⊢;rw[Cy.V8]at h⊢;by_cases h1:Cy.iK 110 1024 l<0
 ·rw[aeu h1]at h;cases h
 rw[aer h1]at h⊢
 show(if Cy.iK 110 1024 l∈g.nodes.map Gr.N.id then(Cy.iK 110 1024 l,0) else(0,65):Int×Nat).1=_
 have h:(if Cy.iK 110 1024 l∈g.nodes.map Gr.N.id then(Cy.iK 110 1024 l,0) else(0,65):Int×Nat).2=0:=h
 split at h
 ·rename_i hm;rw[aeu hm]
 cases h
def al8 {B:Nat} {An:Option Addr} {nn cn:Nat} {Ar:Option Addr} {rn cr:Nat} {g:Gr.G} {p:Cy.aI} {cs:List Value} {w:World} (h:Ii w B An nn cn Ar rn cr g p cs) (hrel:p.rel=true):
  Calls prog 18 #[.agg #[.slice An nn cn,.slice Ar rn cr],.agg cs.toArray] w (Ed B (Cy.zS g p) w):=by
 obtain⟨R,hR⟩:=aj (Cy.zS g p);rw[hR];obtain⟨x,hx1⟩:=h.sz.one hrel;rw[Cy.al7 hx1]at hR;obtain⟨sn,sp,ecs,o1,o2⟩:=h.pat
 dsimp only at ecs o1 o2
 subst ecs;obtain⟨A1,c1,rfl⟩:=aH o1;obtain⟨A2,c2,rfl⟩:=o2.Ec;obtain⟨nl,hnl⟩:=aj p.names.length;obtain⟨pl,hpl⟩:=aj p.props.length;rw[hnl]at o1⊢;rw[hpl]at o2⊢;obtain⟨zf,jC⟩:=aj (⟨p.first.toArray⟩:ByteArray);obtain⟨zw,hzw⟩:=aj (⟨p.word.toArray⟩:ByteArray);obtain⟨zo,kL⟩:=aj (⟨p.other.toArray⟩:ByteArray);have e1:ST p.first=.string zf:=by unfold ST;rw[jC]
 have e2:ST p.word=.string zw:=by unfold ST;rw[hzw]
 have e3:ST p.other=.string zo:=by unfold ST;rw[kL]
 rw[e1,e2,e3,hrel];have uS:zf.data.toList=p.first:=by rw[<-jC]
 obtain⟨b,hb⟩:=aj w.heap.size;have hws:=WS.new w An nn cn Ar rn cr #[.bool true,.string zf,.string zw,.string zo,.slice A1 nl c1,.slice A2 pl c2] (.slice none 0 0) (.slice none 0 0);rw[hb]at hws;obtain⟨W,hW⟩:=aj (((w.alloc (.cells #[.slice An nn cn,.slice Ar rn cr] 26)).alloc (.cells #[.bool true,.string zf,.string zw,.string zo,.slice A1 nl c1,.slice A2 pl c2] 68)).alloc (.cells #[.slice none 0 0,.slice none 0 0] 26));rw[hW]at hws;have JG:zw.data.toList=p.word:=by rw[<-hzw]
 have JH:zo.data.toList=p.other:=by rw[<-kL]
 obtain rfl:nl=1:=by rw[<-hnl,hx1];rfl
 have hgi:=(h.own.ids h.hn.1 h.hr.1 h.hn.2 h.hr.2).below hws.bel;have HZ:=ah (And.intro uS (And.intro JG JH));have bf:=ah (show zf.size<=1073741824/\zw.size<=1073741824/\zo.size<=1073741824 from⟨by rw[aof,uS];have:=h.sz.first;omega,by rw[aof,JG];have:=h.sz.word;omega,by rw[aof,JH];have:=h.sz.other;omega⟩)
 obtain⟨E1,hE1⟩:=aj ((Cy.endP g p.first).2);rw[hE1]at hR;have hi:=ac4 An Ar nn cn rn cr g zf W hgi bf.out.1;rw[uS,hE1]at hi;refine gq9 hE1 hx1 hws hi hgi hR h o1 o2 fun mF HX1 CB HI SL HR HH lH lW=>?_;refine gq5 hpl hW hb rG h.hB fun nR HW kN HU eY=>?_;obtain⟨⟨d0,d1,d2,d3,d4,d5⟩,-⟩:=jE hws.k1;obtain⟨c0,c1',-⟩:=hws.out;clear h hR o1 o2 hnl hpl jC hzw kL e1 e2 e3 uS JG JH hb hws hW hi hgi hrel hE1 hx1;go_enter func18,ntmps18
 go_upto_region 1 with fail
 rw[HW.out,kN.out];clear HW;go_wp2_with fail;refine mq8 HI fun w1 b1=>?_;have dH:=ah (CB.below b1);have dO:=ah (SL.below b1);clear b1 d0 d1 d2 d3 d4 d5 c0 c1' HI CB SL;obtain⟨c0,c1',⟨u0,r0⟩,⟨u1,r1⟩,f0,f1⟩:=dH.out.out;by_cases hE:E1=0
 case neg=>
  have hx:R=(g,E1):=by rw[<-HR.out,aeu hE]
  have t1:((E1:Int) !=0)=true:=by rw[afd];omega
  subst hx;have uQ:=ah hE;clear hE;go_wp2_with fail;exact dH.exit eY.out rfl uQ.out rfl (by simp) (by simp)
 subst hE;obtain⟨n,hn⟩:=aj (Cy.iK 114 2048 p.word);have hr:=HR.out;rw[aer (by decide),hn]at hr
 have HR2:=ah hr;have hi:=KZ zw 114 2048 w1 bf.out.2.1;rw[HZ.out.2.1,hn]at hi;have HI:=ah hi;obtain⟨⟨d0,d1,d2,d3,d4,d5⟩,-⟩:=jE dH.k1;clear hr hn hi HR r0 r1 f0 f1;go_wp2_with fail;refine mq8 HI fun w2 b2=>?_;have HS2:=ah (dH.below b2);have HG2:=ah (dO.below b2);clear b2 c0 c1' d0 d1 d2 d3 d4 d5 HI dH dO;obtain⟨c0,c1',⟨u0,r0⟩,⟨u1,r1⟩,f0,f1⟩:=HS2.out.out;by_cases hneg:n<0
 ·have hx:R=(g,62):=by rw[<-HR2.out,aeu hneg]
  subst hx;go_wp2_with fail;exact HS2.exit eY.out rfl (show(62:Nat)≠0 by decide) rfl (by simp) (by simp)
 have hr:=HR2.out;rw[aer hneg]at hr;have HR3:=ah hr;have hn0:0<=n:=by omega
 clear hr HR2;have arX:(rn:Int)<=16777216:=by have:=HG2.rl.2;omega
 go_wp2_with fail
 go_loopg [12] rn (fun q x wr=> ∃k:Nat,x=.int .i64 k/\k+q=rn/\wr=w2/\ ∀j x,j<k->(g.ay.map Gr.R.id)[j]?=some x->x≠n)
 case atStart=>exact⟨0,rfl,by omega,rfl,fun j x h=>by omega⟩
 obtain⟨k,rfl,hk,rfl,hz⟩:=hrel;have Zh:=ah hz;have hll:(g.ay.map Gr.R.id).length=rn:=by rw[aeP];exact HG2.rl.1
 have bY:=ah hll;clear hz hll;cases gk with
 |succ q=>
  have hkn:k<rn:=by omega
  have dW:(k:Int)<rn:=by omega
  obtain⟨y,hy⟩: ∃y,(g.ay.map Gr.R.id)[k]?=some y:=⟨_,aen (by rw[bY.out];exact hkn)⟩
  obtain⟨bb,o,rfl,hlt,hc⟩:=HG2.r k y hy;have tk:((k:Int)).toNat=k:=by omega
  have hk0:(0:Int)<=k:=by omega
  have tw:IntKind.i64.wrap ((k:Int)+1)=(k:Int)+1:=by unfold IntKind.wrap;simp[IntKind.signed,IntKind.bits];omega
  have HK:=ah hk;have wX:=ah hy;clear hkn hy hk hlt;by_cases hxn:y=n
  ·have t2:(y == n)=true:=by rw[afc];exact hxn
   have hx:R=(g,7):=by rw[<-HR3.out,aeu (hxn▸aew wX.out)]
   subst hx;clear hxn;go_wp2_with fail;exact HS2.exit eY.out rfl (show(7:Nat)≠0 by decide) rfl (by simp) (by simp)
  have t2:(y == n)=false:=by rw[aek];exact hxn
  have YI:=ah hxn;clear hxn;go_wp2
  go_roundg q
  case measure=>omega
  case rel=>exact⟨k+1,int_eq (by omega),by have:=HK.out;omega,rfl,fun j y hj hy=>by
   rcases aoD.1 hj with h|h
   ·exact Zh.out j y h hy
   rw[h,wX.out]at hy
   exact aeM hy▸YI.out⟩
 |zero=>
  obtain rfl:k=rn:=by omega
  have hr:=HR3.out
  rw[aer (fun hm=>by
   obtain⟨j,hj,he⟩:=ao0.1 hm
   exact Zh.out j _ (by have:=bY.out;omega) (aen hj) he)]at hr
  have HR4:=ah hr
  obtain⟨lb,lo,z,rfl,hzd,hzs,hc⟩: ∃(lb lo:Nat) (z:ByteArray),A1=some ⟨lb,lo,none⟩/\(z.data.toList=x/\ST x=.string z)/\z.size<=16777216/\ ∀V,Kp B w V->V.cell? ⟨lb,lo,none⟩=some (.string z):=by
   obtain⟨lb,lo,v,e,qN,hx,hc⟩:=(Reads.dZ lH.out).cell (k:=0) (by omega)
   subst e;refine⟨lb,lo,⟨x.toArray⟩,rfl,⟨rfl,rfl⟩,by rw[dR];exact HH.sz.ns x (by rw[HX1.out];simp),fun V hV=> ?_⟩
   obtain⟨lb',lo',v',e',-,hx',hc'⟩:=(Reads.dZ (nG lH.out hV (by decide) (by decide) (by decide))).cell (k:=0) (by omega)
   rw[HX1.out]at hx';cases hx';cases e';exact hc'
  have HC:=ah hc;have HZD:=ah (And.intro hzd hzs);have hc0:=hc _ (Kp.of_below HS2.bel eY.out);obtain⟨GB,mJ⟩:=aj (Gr.fD x);rw[mJ]at hr;have qV:=ah hr;have hgn:=IZ z wr (by omega)
  rw[hzd.1,mJ]at hgn;have gW:=ah hgn;obtain⟨⟨d0,d1,d2,d3,d4,d5⟩,-⟩:=jE HS2.k1;clear hr hzd hzs hc hgn mJ hk HR3 HR4 Zh r0 r1 f0 f1;go_wp2_with fail;refine mq8 gW fun w3 b3=>?_;have bK:=ah (HS2.below b3);have jU:=ah (HG2.below b3);clear b3 c0 c1' d0 d1 d2 d3 d4 d5 hc0 gW HS2 HG2;obtain⟨c0,c1',⟨u0,r0⟩,⟨u1,r1⟩,f0,f1⟩:=bK.out.out;cases GB with
  |false=>
   have hx:R=(g,60):=by rw[<-qV.out,aeu rfl]
   subst hx;go_wp2_with fail;exact bK.exit eY.out rfl (show(60:Nat)≠0 by decide) rfl (by simp) (by simp)
  |true=>
  obtain⟨PW,wo⟩:=aj (Cy.dJ [] p.props);have hr:=qV.out;rw[aer (by decide),wo]at hr
  have hpw:=ac8 B A2 pl c2 p.props w3 (lW.kp (Kp.of_below bK.bel eY.out) (by decide) (by decide) (by decide)) nR.out (by rw[<-nR.out];exact HH.sz.pl) HH.sz.ps
  rw[wo]at hpw;have iT:=ah hpw;have oJ:=ah hr;obtain⟨⟨d0,d1,d2,d3,d4,d5⟩,-⟩:=jE bK.k1;clear hr hpw wo qV r0 r1 f0 f1;go_wp2_with fail;refine mq8 iT fun w4 b4=>?_;have gG:=ah (bK.below b4);have uN:=ah (jU.below b4);clear b4 c0 c1' d0 d1 d2 d3 d4 d5 iT bK jU;have he2:=ac4 An Ar nn cn k cr g zo w4 uN.out bf.out.2.2;rw[HZ.out.2.2]at he2;obtain⟨E2,hE2⟩:=aj ((Cy.endP g p.other).2);rw[hE2]at he2;have HE2:=ah he2;have SQ:=ah hE2;obtain⟨c0,c1',⟨u0,r0⟩,⟨u1,r1⟩,f0,f1⟩:=gG.out.out;obtain⟨⟨d0,d1,d2,d3,d4,d5⟩,-⟩:=jE gG.k1;clear he2 hE2
  rcases afY PW with hpz|hpz
  case' inl=>
   subst hpz;clear r0 r1 f0 f1;go_wp2_with fail;refine mq8 HE2 fun w5 b5=>?_;have dQ:=ah (gG.below b5);have hr:=oJ.out;rw[aer (by decide),SQ.out]at hr
   have Oy:=ah (show R.2=E2/\(E2=0->R.1=⟨g.nodes,g.ay++[⟨n,x,Cy.iK 110 1024 p.first,Cy.iK 110 1024 p.other,p.props⟩]⟩) from by
    rw[<-hr]
    exact⟨rfl,fun h0=>by rw[Cy.adJ mF.out,Cy.adJ (SQ.trans h0)]⟩)
   clear hr b5 c0 c1' d0 d1 d2 d3 d4 d5 HE2 SQ oJ gG
   go_upto_region 36 with fail
   obtain⟨E,rfl⟩: ∃y,y=E2:=⟨_,rfl⟩
  case' inr=>
   have hr:=oJ.out;rw[aeu (show PW≠0 by omega)]at hr
   have Oy:=ah (show R.2=PW/\(PW=0->R.1=⟨g.nodes,g.ay++[⟨n,x,Cy.iK 110 1024 p.first,Cy.iK 110 1024 p.other,p.props⟩]⟩) from by
    rw[<-hr]
    exact⟨rfl,fun h0=>by omega⟩)
   have t1:((PW:Int) == 0)=false:=by rw[aek];omega
   clear r0 r1 f0 f1 hr c0 c1' d0 d1 d2 d3 d4 d5 HE2 SQ oJ
   go_upto_region 36 with fail
   clear t1 hpz;obtain⟨w5,rfl⟩: ∃y,y=w4:=⟨_,rfl⟩;obtain⟨E,rfl⟩: ∃y,y=PW:=⟨_,rfl⟩;have dQ:=ah gG.out;clear gG
  all_goals
   obtain⟨i1,hi1⟩:=aj (Cy.iK 110 1024 p.first);obtain⟨i2,hi2⟩:=aj (Cy.iK 110 1024 p.other);rw[hi1,hi2]at Oy;have HI1:=ah (fun(V:World)=>(by have:=KZ zf 110 1024 V bf.out.1;rwa [HZ.out.1,hi1]at this:Calls prog 62 #[.string zf,.int .u8 (110:UInt8).toNat,.int .i64 1024] V (fun e w'=>e=.returned (.int .i64 i1)/\Below V.heap.size V w')))
   have HI2:=ah (fun(V:World)=>(by have:=KZ zo 110 1024 V bf.out.2.2;rwa [HZ.out.2.2,hi2]at this:Calls prog 62 #[.string zo,.int .u8 (110:UInt8).toNat,.int .i64 1024] V (fun e w'=>e=.returned (.int .i64 i2)/\Below V.heap.size V w')))
   have tZ:=ah (fun(w':World) (hb:ak w' b 26 #[.slice An nn cn,.slice Ar k cr]) (hp:ak w' (b+1) 68 #[.bool true,.string zf,.string zw,.string zo,.slice (some ⟨lb,lo,none⟩) 1 c1,.slice A2 pl c2]) (hk:Kp B w w')=>show w'.cell? ⟨b,1,none⟩=some (.slice Ar k cr)/\w'.cell? ⟨b+1,1,none⟩=some (.string zf)/\w'.cell? ⟨b+1,3,none⟩=some (.string zo)/\w'.cell? ⟨b+1,4,none⟩=some (.slice (some ⟨lb,lo,none⟩) 1 c1)/\w'.cell? ⟨b+1,5,none⟩=some (.slice A2 pl c2)/\w'.cell? ⟨lb,lo,none⟩=some (.string z) from by
    obtain⟨⟨d0,d1,d2,d3,d4,d5⟩,-⟩:=jE hp
    exact⟨hb.cell 1,d1,d3,d4,d5,HC.out _ hk⟩)
   have Cm:=ah (fun(w':World) (h:WS w w' b An nn cn Ar k cr #[.bool true,.string zf,.string zw,.string zo,.slice (some ⟨lb,lo,none⟩) 1 c1,.slice A2 pl c2])=>tZ.out w' h.k0 h.k1 (Kp.of_below h.bel eY.out))
   have hnb:k<536870912:=by omega
   clear hi1 hi2;refine Lh 19 (fun w'=>w'.cell? ⟨b,1,none⟩=some (.slice Ar k cr)/\w'.cell? ⟨b+1,1,none⟩=some (.string zf)/\w'.cell? ⟨b+1,3,none⟩=some (.string zo)/\w'.cell? ⟨b+1,4,none⟩=some (.slice (some ⟨lb,lo,none⟩) 1 c1)/\w'.cell? ⟨b+1,5,none⟩=some (.slice A2 pl c2)/\w'.cell? ⟨lb,lo,none⟩=some (.string z)) (by kernel_rfl) (by kernel_rfl) (Cm.out _ (dQ.below (aoa _ _).drew)) (fun hHeld=> ?_)
   simp only[ag7,agL];refine bZ 0 hHeld ?_
   (try simp only[Act.put,aes,aeD,aeE])
   refine bZ 1 hHeld ?_
   (try simp only[Act.put,aes,aeD,aeE])
   refine bZ 2 hHeld ?_
   (try simp only[Act.put,aes,aeD,aeE])
   refine bZ 3 hHeld ?_
   (try simp only[Act.put,aes,aeD,aeE])
   refine bZ 4 hHeld ?_
   (try simp only[Act.put,aes,aeD,aeE])
   refine bZ 5 hHeld ?_
   (try simp only[Act.put,aes,aeD,aeE])
   refine bZ 6 hHeld ?_
   (try simp only[Act.put,aes,aeD,aeE])
   refine bZ 7 hHeld ?_
   (try simp only[Act.put,aes,aeD,aeE])
   refine bZ 8 hHeld ?_
   (try simp only[Act.put,aes,aeD,aeE])
   refine bZ 10 hHeld ?_
   (try simp only[Act.put,aes,aeD,aeE])
   refine bZ 11 hHeld ?_
   (try simp only[Act.put,aes,aeD,aeE])
   refine bZ 13 hHeld ?_
   (try simp only[Act.put,aes,aeD,aeE])
   refine bZ 14 hHeld ?_
   (try simp only[Act.put,aes,aeD,aeE])
   clear hHeld;refine asN (rs:=[9]) (by kernel_rfl) (by simp) (asC (by simp only[aeN,aeQ,aev];rfl) (fun K hK=> ?_) asL)
   go_simp
   go_at_call 62
   refine mq7 (HI1.out _) fun w6 b6=>?_;have iU:=ah ((dQ.below (aoa _ _).drew).below b6);go_wp2_with fail;refine hK.out _ _ (Cm.out _ iU.out) (fun hHeld=> ?_)
   clear hK K
   (try simp only[Act.put,aes,aeD,aeE])
   clear hHeld;refine asN (rs:=[12]) (by kernel_rfl) (by simp) (asC (by simp only[aeN,aeQ,aev];rfl) (fun K hK=> ?_) asL)
   go_simp
   go_at_call 62
   refine mq7 (HI2.out _) fun w7 b7=>?_;have dL:=ah (iU.below b7);go_wp2_with fail;refine hK.out _ _ (Cm.out _ dL.out) (fun hHeld=> ?_)
   clear hK K
   (try simp only[Act.put,aes,aeD,aeE])
   clear iU dQ;obtain⟨sn,sr,ln,lr,eg,q1,q2,q3,q4,q5,q6⟩:=HH.own.below dL.bel
   injection eg with eg
   simp only[arI,aqv,apg,arT]at eg;obtain⟨rfl,rfl⟩:=eg;have Ov:B<=w7.heap.size:=aep eY.out dL.bel.size;have vW:Kp B w w7:=Kp.of_below dL.bel eY.out;have hno:iQ w7 B (⟨n,x,i1,i2,p.props⟩,[.int .i64 n,.string z,.int .i64 i1,.int .i64 i2,.slice A2 pl c2]):=⟨_,by rw[<-HZD.out.1.2],lW.kp vW (by decide) (by decide) (by decide)⟩
   have iR:=ah (fun(w9:World) (v':Value) (hg:w7.grownBy w9 (Value.ownBlock (.slice Ar k cr))) (ho:w9.ownsRow B 74 5 v' (g.ay.length+1) (lr.flatMap Prod.snd++[.int .i64 n,.string z,.int .i64 i1,.int .i64 i2,.slice A2 pl c2]))=>dV.rel q1 q2 q3 q4 q5 q6 Ov hno hg ho)
   have uT:=ah (fun(w9:World) (hg:w7.grownBy w9 (Value.ownBlock (.slice Ar k cr)))=>show ak w9 b 26 #[.slice An nn cn,.slice Ar k cr]/\ak w9 (b+1) 68 #[.bool true,.string zf,.string zw,.string zo,.slice (some ⟨lb,lo,none⟩) 1 c1,.slice A2 pl c2]/\ ∃u0 u1,ak w9 (b+1+1) 26 #[u0,u1] from by
    obtain⟨u0,u1,hk2⟩:=dL.k2
    exact⟨dL.k0.grown hg (BD q6 dL.k0 (by decide)),dL.k1.grown hg (BD q6 dL.k1 (by decide)),u0,u1,hk2.grown hg (BD q6 hk2 (by decide))⟩)
   rw[HH.hr.1]at q6 iR;have H4:=ah q6;have y8:=ah vW;clear q1 q2 q3 q4 q5 q6 vW hno;refine bZ 15 hHeld ?_
   (try simp only[Act.put,aes,aeD,aeE])
   clear hHeld;refine asN (rs:=[16]) (by kernel_rfl) (by simp) (asC (by simp only[aeN,aeQ,aev];rfl) (fun K hK=> ?_) asL)
   go_simp;refine hK.out _ _ (Cm.out _ (dL.below ((aoa _ _).alloc (aej _) _))) (fun hHeld=> ?_)
   clear hK K
   (try simp only[Act.put,aes,aeD,aeE])
   clear hHeld;refine asN (rs:=[17]) (by kernel_rfl) (by simp) (asC (by simp only[aeN,aeQ,aev];rfl) (fun K hK=> ?_) asL)
   refine FV rfl (.tmp 121) (.tmp 136) 24 74 (.agg #[.int .i64 0,.string ⟨#[]⟩,.int .i64 0,.int .i64 0,.slice none 0 0]) 5 64 as7 Vf rfl (by decide) (by decide) rfl B (.slice Ar k cr) k (lr.flatMap Prod.snd) w7 rfl H4.out [.int .i64 n,.string z,.int .i64 i1,.int .i64 i2,.slice A2 pl c2] _ rfl rfl (by simp[Value.oneCell']) rfl hnb Ov ?_
   intro v9 w9 aY bC iq aB;obtain⟨A9,c9,rfl⟩:=aH aY;obtain⟨qc,hk9⟩:=iR.out w9 (.slice A9 (k+1) c9) bC aY;obtain⟨kb,kp,v0,v1,kr⟩:=uT.out w9 bC;refine gq5 (y8.trans hk9) qc kb kp kr fun mP pY HKB ru gK=>?_;have f0:=kb.cell 1;have f1:=kb.frozen 1;clear aY bC iq aB qc hk9 kb kp kr;refine hK.out _ _ (tZ.out _ HKB.out ru.out mP.out) (fun hHeld=> ?_)
   clear hK K
   (try simp only[Act.put,aes,aeD,aeE])
   refine bZ 18 hHeld ?_
   (try simp only[Act.put,aes,aeD,aeE])
   clear hHeld;refine atu (by kernel_rfl) ?_ _
   refine Lj (by simp only[aeN,aeQ,aev];rfl) (fun K hK=> ?_)
   go_simp;refine hK.out _ _ ?_;clear hK K;obtain⟨w10,zJ⟩:=aj (w9.setCell ⟨b,1,none⟩ (.slice A9 (k+1) c9));have Ox:ak w10 b 26 #[.slice An nn cn,.slice A9 (k+1) c9]:=by rw[<-zJ];simpa using HKB.aG 1 (.slice A9 (k+1) c9)
   have Di:ak w10 (b+1+1) 26 #[v0,v1]:=by rw[<-zJ];exact gK.far (p:=⟨b,1,none⟩) (show b+1+1≠b by omega) _
   have qc:=pY.kt (Kt.cell (base:=0) HKB.out (anH _) 1 (.slice A9 (k+1) c9)) (by decide) (by decide) (by decide) (by decide) (by decide)
   have hk10:=mP.put (b:=b) (i:=1) (by have:=dL.sz;omega) eY.out (.slice A9 (k+1) c9)
   rw[zJ]at qc hk10
   have G5:=ah (show ak ((w10.setCell ⟨b+1+1,0,none⟩ (.slice An nn cn)).setCell ⟨b+1+1,1,none⟩ (.slice A9 (k+1) c9)) (b+1+1) 26 #[.slice An nn cn,.slice A9 (k+1) c9]/\Ed B R w (.returned (.tuple #[.agg #[.slice An nn cn,.slice A9 (k+1) c9],.int .i64 (R.2:Nat)])) ((w10.setCell ⟨b+1+1,0,none⟩ (.slice An nn cn)).setCell ⟨b+1+1,1,none⟩ (.slice A9 (k+1) c9)) from by
    have ks:=Di.aG 0 (.slice An nn cn);refine⟨by simpa using ks.aG 1 (.slice A9 (k+1) c9),_,_,_,_,_,_,rfl,(hk10.put (b:=b+1+1) (i:=0) (by have:=dL.sz;omega) eY.out _).put (b:=b+1+1) (i:=1) (by have:=dL.sz;omega) eY.out _,fun h0=> ?_⟩
    rw[Oy.out.2 (Oy.out.1.symm.trans h0)]
    exact⟨(qc.kt (Kt.cell (base:=0) Di (anH _) 0 _) (by decide) (by decide) (by decide) (by decide) (by decide)).kt (Kt.cell (base:=0) ks (anH _) 1 _) (by decide) (by decide) (by decide) (by decide) (by decide),HH.hn.1,by simp[HH.hr.1]⟩)
   have HKB1:=ah Ox;have SS:=ah Di;clear Ox Di qc hk10 f0 f1 iR uT H4 tZ Cm HKB gK ru HC;rw[zJ];obtain⟨c0,c1'⟩:=cells2 HKB1.out;have r0:=SS.cell 0;have r1:=SS.cell 1;have f0:=SS.frozen 0;have f1:=SS.frozen 1;clear zJ;go_wp2_with fail;exact vJ (v2:=.int .i64 (E:Nat)) rfl (by simp) (by simp) G5.out.1 (by have h:=G5.out.2;rw[Oy.out.1]at h;exact h)
def al9 {B:Nat} {An:Option Addr} {nn cn:Nat} {Ar:Option Addr} {rn cr:Nat} {g:Gr.G} {p:Cy.aI} {cs:List Value} {w:World} (h:Ii w B An nn cn Ar rn cr g p cs):
  Calls prog 18 #[.agg #[.slice An nn cn,.slice Ar rn cr],.agg cs.toArray] w (Ed B (Cy.add g p) w):=by
 unfold Cy.add;cases hr:p.rel with
 |true=>rw[aeu rfl];exact al8 h hr
 |false=>rw[aer (by decide)];exact al3 h hr
end Go.Proofs.YtdijgcnlbfgkdaaGreatDoor
namespace Go.Proofs.YtdijgcnlbfgkdaaGreatDoor.Ord
open Go Go.Proofs.Tryz
variable {α:Type} {le:α->α->Bool}
def pass (le:α->α->Bool) (w:Nat) (l:List α):List α:=
 if h:l=[]\/w=0 then l else List.merge (l.take w) ((l.drop w).take w) le++pass le w (l.drop (2*w))
termination_by l.length
decreasing_by
 have h1:=afB.2 (fun e=>h (.inl e))
 have h2:w≠0:=fun e=>h (.inr e)
 rw[ae1];omega
def QA (w:Nat):pass le w []=[]:=by rw[pass];simp
def V9 {w:Nat} {l:List α} (h:l≠ []) (hw:w≠0):pass le w l=List.merge (l.take w) ((l.drop w).take w) le++pass le w (l.drop (2*w)):=by
 rw[pass,dif_neg (by simp[h,hw])]
def ama (l r:List α):(List.merge l r le).length=l.length+r.length:=by simp[List.length_merge]
def amb {w:Nat} (hw:w≠0): ∀(n:Nat) (l:List α),l.length=n->(pass le w l).Perm l:=by
 intro n
 induction n using Nat.strongRecOn with
 |ind n ih=>
  intro l hl;by_cases h:l=[]
  ·subst h;rw[QA]
  rw[V9 h hw];have h1:=afB.2 h;have h2:=ih (l.drop (2*w)).length (by rw[ae1];omega) _ rfl
  have h3:(List.merge (l.take w) ((l.drop w).take w) le).Perm (l.take w ++(l.drop w).take w):=List.merge_perm_append le
  have h4:l.take w ++(l.drop w).take w++l.drop (2*w)=l:=by
   rw[show l.drop (2*w)=(l.drop w).drop w by rw[ahu];congr 1;omega,afu,afz,afz]
  have h5:=h3.append h2
  rwa [h4]at h5
def Ch (le:α->α->Bool) (w:Nat) (l:List α):Prop:= ∀k,((l.drop (k*w)).take w).Pairwise (fun a b=>le a b=true)
def amc (l:List α):Ch le 1 l:=fun k=>by
 match hl:(l.drop (k*1)).take 1 with
 |[]=>exact List.Pairwise.nil
 |[a]=>exact List.pairwise_singleton _ _
 |a :: b :: r=>
  have:=afL List.length hl;rw[afo]at this;simp at this;omega
def amd {w:Nat} {l:List α} (h:Ch le w l) (hw:l.length<=w):l.Pairwise (fun a b=>le a b=true):=by
 have:=h 0
 rwa [aop,afW,aeG hw]at this
def ame {w:Nat} (hw:w≠0) (tr: ∀a b c,le a b=true->le b c=true->le a c=true) (tot: ∀a b,(le a b || le b a)=true): ∀(n:Nat) (l:List α),l.length=n->Ch le w l->Ch le (2*w) (pass le w l):=by
 intro n
 induction n using Nat.strongRecOn with
 |ind n ih=>
  intro l hl hc;by_cases h:l=[]
  ·subst h
   rw[QA];intro k;simp
  rw[V9 h hw];have h1:=afB.2 h;obtain⟨M,hM⟩:=aj (List.merge (l.take w) ((l.drop w).take w) le)
  have hs:M.Pairwise (fun a b=>le a b=true):=by
   rw[<-hM];have a0:=hc 0;have a1:=hc 1;rw[aop,afW]at a0;rw[Nat.one_mul]at a1;exact List.pairwise_merge tr tot _ _ a0 a1
  have hml:M.length=min (2*w) l.length:=by
   rw[<-hM,ama,afo,afo,ae1];omega
  have hR:Ch le (2*w) (pass le w (l.drop (2*w))):=by
   refine ih (l.drop (2*w)).length (by rw[ae1];omega) _ rfl fun k=> ?_
   have:=hc (k+2)
   rwa [ahu,show 2*w+k*w=(k+2)*w by rw[aqG];omega]
  rw[hM]
  rcases ahi l.length (2*w) with hlt|hge
  ·have e:l.drop (2*w)=[]:=af8 (by omega)
   rw[e,QA,afy];intro k;exact(hs.sublist (apN _ _)).sublist (aqZ _ _)
  have hm2:M.length=2*w:=by omega
  intro k;cases k with
  |zero=>rw[aop,afW,ap9 (by omega),aeG (by omega)];exact hs
  |succ k=>
   have:=hR k;rw[List.drop_append,af8 (by rw[hm2,aqG k 1];omega),agJ,hm2,show(k+1)*(2*w) - 2*w=k*(2*w) by rw[aqG k 1];omega]
   exact this
def amf {a b:α} {l r:List α} (h:le a b=true):List.merge (a :: l) (b :: r) le=a :: List.merge l (b :: r) le:=by rw[List.cons_merge_cons,aeu h]
def merge_right {a b:α} {l r:List α} (h:le a b=false):List.merge (a :: l) (b :: r) le=b :: List.merge (a :: l) r le:=by rw[List.cons_merge_cons,aer (by rw[h];decide)]
end Go.Proofs.YtdijgcnlbfgkdaaGreatDoor.Ord
