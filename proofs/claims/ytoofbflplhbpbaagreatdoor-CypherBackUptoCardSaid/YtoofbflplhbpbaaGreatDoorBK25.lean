/- Contracts and plain laws,part 25. -/
import Derived.Test.YtoofbflplhbpbaaGreatDoorBK24
import Derived.Defers
import Derived.Recover
import Derived.Laws.Pointers
import Derived.Maps.Own
import Derived.Maps.OwnOps
import Derived.Maps.OwnIn
import Derived.Maps.Views
import Derived.StringKeys
set_option maxHeartbeats 64000000
set_option maxRecDepth 1000000
set_option linter.all false
namespace Go.Proofs.YtoofbflplhbpbaaGreatDoor
open Go.RowKit
theorem L8 (p q:Nat) (A:Option Addr) (n c:Nat) (e0:Int) (w:World) (h0:Blk w p 93 #[.slice A n c]) (h1:Blk w q 29 #[.int .i64 e0]) (hpq:p≠q):
  CallsD Tryz.prog 84 #[.pointer (some ⟨p,0,none⟩), .pointer (some ⟨q,0,none⟩)] (.panicking SYN) w fun e u' w'=>
   e= .returned (.tuple #[])∧u'= .panicking [{v:= .iface 140 (.agg #[]),recovered:=true}]∧Blk w' p 93 #[.slice none 0 0]∧Blk w' q 29 #[.int .i64 250]∧(∀B,B≤p→B≤q→B≤w.heap.size→Below B w w'):=by
 have c0:w.cell? ⟨p,0,none⟩=some (.slice A n c):=h0.cell 0
 have c1:w.cell? ⟨q,0,none⟩=some (.int .i64 e0):=h1.cell 0
 have f0:=h0.frozen 0
 have f1:=h1.frozen 0
 have lp:=h0.lt
 have lq:=h1.lt
 have H0:=hq7 h0
 have H1:=hq7 h1
 refine callsD_of_wpS Tryz.func84 rfl fun c₀ cs hu=> ?_
 unfold SYN at hu
 apply wpS_seq
 apply wpS_region
 simp [wpOpsS,go_sem,recoverD,hu,Tryz.ntmps84,Exit.thenS]
 refine wpS_of_wp ?_
 change Code.wp _ _ _ {tmps:= #[.pointer (some ⟨p,0,none⟩), .pointer (some ⟨q,0,none⟩), .iface 140 (.agg #[]),undef,undef, .iface 140 (.agg #[]),undef,undef,undef,undef,undef,undef,undef,undef,undef,undef],defers:= []} w
 have hta: ∀w:World,(Instr.typeAssert (.iface 140 (.agg #[])) 20 140 true).run Tryz.prog w= .ok (.tuple #[.agg #[], .bool true]) w:=fun _=>by kernel_rfl
 clear h0 h1
 go_wp2
 refine ⟨rfl,_,rfl, .tuple #[],by simp [results,Tryz.results84,go_sem],rfl,rfl, ?_, ?_,fun B hp hq hB=>(((Below.refl B w).setCell (p:=⟨p,0,none⟩) hp _).setCell (p:=⟨q,0,none⟩) hq _).alloc (by simpa using hB) _⟩
 ·exact (((H0.out.ay 0 (.slice none 0 0)).far (p:=⟨q,0,none⟩) hpq _).alloc _).cast (by simp)
 ·exact (((H1.out.far (p:=⟨p,0,none⟩) (fun e=>hpq e.symm) _).ay 0 (.int .i64 250)).alloc _).cast (by simp)
theorem L9 (p q:Nat) (w:World):
  CallsD Tryz.prog 84 #[.pointer (some ⟨p,0,none⟩), .pointer (some ⟨q,0,none⟩)] .returning w fun e u' w'=>e= .returned (.tuple #[])∧u'= .returning∧w'=w:=by
 refine callsD_of_wpS Tryz.func84 rfl fun c₀ cs hu=> ?_
 apply wpS_seq
 apply wpS_region
 simp [wpOpsS,go_sem,recoverD,hu,Tryz.ntmps84,Exit.thenS]
 refine wpS_of_wp ?_
 change Code.wp _ _ _ {tmps:= #[.pointer (some ⟨p,0,none⟩), .pointer (some ⟨q,0,none⟩), .nilIface,undef,undef, .nilIface,undef,undef,undef,undef,undef,undef,undef,undef,undef,undef],defers:= []} w
 go_wp2
 refine ⟨rfl, .returning, ?_, .tuple #[],by simp [results,Tryz.results84,go_sem],rfl,rfl, ?_⟩
 ·cases c₀
  simp_all
 ·rfl
theorem aC.row {T:TypeId} {w w':World} {B:Nat} {row:Option Nat} {v:Value} {ps:List Gr.P} (h:aC T w B v ps) (hg:w.grownBy w' row) (hty: ∀g c t fz,row=some g→w.heap[g]?=some (.cells c t fz)→t≠2∧t≠9∧t≠T):aC T w' B v ps:=by
 obtain ⟨l,e,h1,h2⟩:=h
 exact ⟨l,e,fun x hx=>(h1 x hx).row hg fun g c t fz hr hc=>⟨(hty g c t fz hr hc).1,(hty g c t fz hr hc).2.1⟩,aP h2 hg fun g c t fz hr hc=>(hty g c t fz hr hc).2.2⟩
theorem aC.below {T:TypeId} {w w':World} {B:Nat} {v:Value} {ps:List Gr.P} (h:aC T w B v ps) (hb:Below w.heap.size w w'):aC T w' B v ps:=h.row (bJ hb none) (fun g c t fz hr=>by cases hr)
def eG (W:World) (B:Nat) (x:Cy.Pat×List Value):Prop:=
 ∃sn sp,x.2= [ST x.1.first,ST x.1.word,ST x.1.other,sn,sp]∧W.ownsRow B 9 1 sn x.1.names.length (x.1.names.map ST)∧aC 212 W B sp x.1.props
theorem eG.step {w w':World} {B b:Nat} {x:Cy.Pat×List Value} (h:eG w B x) (hg:w.grownBy w' (some b)) (hb:b<B):eG w' B x:=by
 obtain ⟨s,t,e,h1,h2⟩:=h
 exact ⟨s,t,e,bG h1 hg hb,h2.step hg hb⟩
theorem eG.row {w w':World} {B:Nat} {row:Option Nat} {x:Cy.Pat×List Value} (h:eG w B x) (hg:w.grownBy w' row) (hty: ∀g c t fz,row=some g→w.heap[g]?=some (.cells c t fz)→t≠2∧t≠9∧t≠212):eG w' B x:=by
 obtain ⟨s,t,e,h1,h2⟩:=h
 exact ⟨s,t,e,aP h1 hg fun g c t' fz hr hc=>(hty g c t' fz hr hc).2.1,h2.row hg hty⟩
def fB (W:World) (B:Nat) (v:Value) (ps:List Cy.Pat):Prop:=
 ∃l:List (Cy.Pat×List Value),l.map Prod.fst=ps∧(∀x∈l,eG W B x)∧W.ownsRow B 102 5 v ps.length (l.flatMap Prod.snd)
theorem fB.step {w w':World} {B b:Nat} {v:Value} {ps:List Cy.Pat} (h:fB w B v ps) (hg:w.grownBy w' (some b)) (hb:b<B):fB w' B v ps:=by
 obtain ⟨l,e,h1,h2⟩:=h
 exact ⟨l,e,fun x hx=>(h1 x hx).step hg hb,bG h2 hg hb⟩
theorem fB.put {w w':World} {B:Nat} {v v':Value} {ps:List Cy.Pat} {p:Cy.Pat} {cs:List Value} {l:List (Cy.Pat×List Value)} (hl:l.map Prod.fst=ps) (h1: ∀x∈l,eG w B x) (hp:eG w B (p,cs))
  (hv:w.ownsRow B 102 5 v ps.length (l.flatMap Prod.snd)) (hg:w.grownBy w' v.ownBlock) (hown:w'.ownsRow B 102 5 v' (ps.length+1) (l.flatMap Prod.snd ++ cs)):fB w' B v' (ps ++ [p]):=by
 have hty: ∀g c t fz,v.ownBlock=some g→w.heap[g]?=some (.cells c t fz)→t≠2∧t≠9∧t≠212:=fun g c t fz hr hc=>by
  obtain ⟨-,c',hc'⟩:=dZ hv g hr
  rw [hc'] at hc
  cases hc
  decide
 refine ⟨l ++ [(p,cs)],by rw [List.map_append,hl];rfl,fun x hx=> ?_, ?_⟩
 ·rcases List.mem_append.1 hx with hx | hx
  ·exact (h1 x hx).row hg hty
  ·rw [List.mem_singleton.1 hx];exact hp.row hg hty
 ·rw [List.length_append,List.flatMap_append]
  simpa using hown
theorem Mc:(Tryz.prog.info? 102).map (fun i=>(i.zero,i.size,i.bytes))=some (some (.agg #[.string ⟨#[]⟩, .string ⟨#[]⟩, .string ⟨#[]⟩, .slice none 0 0, .slice none 0 0]),5,96):=by kernel_rfl
structure PtS (n:Nat) (w:World) (acc:List Cy.Pat) (l:List Lex.Tok) (V:World):Prop where
 out: ∃A c,Blk V w.heap.size 93 #[.slice A acc.length c]∧fB V (w.heap.size+3) (.slice A acc.length c) acc
 err:Blk V (w.heap.size+1) 29 #[.int .i64 0]
 rs:RS (n,w.heap.size) (w.heap.size+2) l V
 bel:Below w.heap.size w V
theorem PtS.step {n:Nat} {w V V':World} {acc:List Cy.Pat} {l l':List Lex.Tok} (h:PtS n w acc l V) (hr:RS (n,w.heap.size) (w.heap.size+2) l' V') (hg:V.grownBy V' (some (w.heap.size+2))):PtS n w acc l' V':=by
 obtain ⟨A,c,h1,h2⟩:=h.out
 exact ⟨⟨A,c,h1.grown hg (fun e=>by have:=Option.some.inj e;omega),h2.step hg (by omega)⟩,h.err.grown hg (fun e=>by have:=Option.some.inj e;omega),hr,h.bel.trans ⟨hg.os,hg.tape,hg.output,hg.size,fun i hi=>hg.block i (by have:=h.bel.size;omega) (fun e=>by have:=Option.some.inj e;omega)⟩⟩
theorem PtS.sz {n:Nat} {w V:World} {acc:List Cy.Pat} {l:List Lex.Tok} (h:PtS n w acc l V):w.heap.size+3≤V.heap.size:=h.rs.lt
theorem RS.lower {q0:Nat×Nat} {b g:Nat} {l:List Lex.Tok} {w w':World} (h:RS q0 b l w) (hg:w.grownBy w' (some g)) (h1:q0.2≤g) (h2:g≠b):RS q0 b l w':=by
 obtain ⟨A,n,c,k,ts,hk,e1,e2,e3,e4,e5⟩:=h.ex
 have hb:Below (min b q0.2) w w':=⟨hg.os,hg.tape,hg.output,hg.size,fun i hi=>hg.block i (by have:=hk.lt;omega) (fun e=>by have:=Option.some.inj e;omega)⟩
 exact ⟨⟨A,n,c,k,ts,hk.grown hg (fun e=>h2 (Option.some.inj e).symm),e1,e2,e3,e4,e5.below hb⟩,h.ok,by obtain ⟨A,c,v,ht⟩:=h.tot;exact ⟨A,c,v,ht.grown hg (fun e=>h2 (Option.some.inj e).symm)⟩⟩
theorem RS.left {q0:Nat×Nat} {b:Nat} {l:List Lex.Tok} {w:World} (h:RS q0 b l w): ∃k:Nat,w.cell? ⟨b,1,none⟩=some (.int .i64 (k:Nat))∧k+l.length=q0.1:=by
 obtain ⟨A,n,c,k,ts,hk,h1,h2,h3,h4,h5⟩:=h.ex
 obtain ⟨A',c',v,ht⟩:=h.tot
 have e0:some (Value.slice A n c)=some (Value.slice A' q0.1 c'):=(hk.cell 0).symm.trans (ht.cell 0)
 injection e0 with e0
 injection e0 with _ e0 _
 refine ⟨k,hk.cell 1, ?_⟩
 rw [←h2,List.length_drop]
 omega
def Dp (w:World) (o:Option (List Cy.Pat)) (e:Ending) (w':World):Prop:=
 Below w.heap.size w w'∧match o with
  | none=>e= .returned (.tuple #[.slice none 0 0, .int .i64 250])
  | some ps=> ∃u,e= .returned (.tuple #[u, .int .i64 0])∧fB w' (w.heap.size+3) u ps
theorem og {w V V':World} {n:Nat} {acc:List Cy.Pat} {l:List Lex.Tok} {tmps:Array Value} (h:PtS n w acc l V) (hg:V.grownBy V' (some (w.heap.size+2)))
  (t2:tmps.getD 2 undef= .pointer (some ⟨w.heap.size,0,none⟩)) (t3:tmps.getD 3 undef= .pointer (some ⟨w.heap.size+1,0,none⟩)):
  bodyPostD Tryz.prog Tryz.f48 (Dp w none) (.panic SYN) {tmps:=tmps,defers:= [{target:= .fn (.func 84) #[.pointer (some ⟨w.heap.size,0,none⟩), .pointer (some ⟨w.heap.size+1,0,none⟩)],args:= #[]}]} V':=by
 obtain ⟨A,c,h1,-⟩:=h.out
 have h1':=h1.grown hg (fun e=>by have:=Option.some.inj e;omega)
 have h2':=h.err.grown hg (fun e=>by have:=Option.some.inj e;omega)
 have hb':Below w.heap.size w V':=h.bel.trans ⟨hg.os,hg.tape,hg.output,hg.size,fun i hi=>hg.block i (by have:=h.bel.size;omega) (fun e=>by have:=Option.some.inj e;omega)⟩
 refine leaves_cons (f:=84) (args:= #[.pointer (some ⟨w.heap.size,0,none⟩), .pointer (some ⟨w.heap.size+1,0,none⟩)]) (by simp) (by simp [go_sem]) ?_
 refine (L8 w.heap.size (w.heap.size+1) A acc.length c 0 V' h1' h2' (by omega)).mono ?_
 rintro e u' w'' ⟨rfl,rfl,k1,k2,k3⟩
 have c0:=k1.cell 0
 have c1:=k2.cell 0
 simp at c0 c1 t2 t3
 simp [Leaves,settle,results,Tryz.results48,go_sem,t2,t3,c0,c1]
 exact ⟨hb'.trans (k3 _ (Nat.le_refl _) (by omega) hb'.size),rfl⟩
theorem Md (B:Nat) (A:Option Addr) (n c:Nat) (ts:List Lex.Tok) (w:World) (hr:Reads w B 4 A n (fF ts)) (hn:ts.length=n) (hn2:n≤16777216) (hok: ∀t∈ts,Cy.dW t) (hB:B≤w.heap.size):
  Calls Tryz.prog 48 #[.slice A n c] w (Dp w (Cy.patterns ts)):=by
 obtain ⟨o,ho⟩: ∃o,Cy.patterns ts=o:=⟨_,rfl⟩
 rw [ho]
 unfold Cy.patterns at ho
 obtain ⟨W1,hW1⟩: ∃W1,((w.alloc (.cells #[.slice none 0 0] 93)).alloc (.cells #[.int .i64 0] 29)).alloc (.cells #[.slice A n c, .int .i64 0] 144)=W1:=⟨_,rfl⟩
 have hb1:Below w.heap.size w W1:=by rw [←hW1];exact (((Below.refl _ w).alloc (Nat.le_refl _) _).alloc (by simp) _).alloc (by simp;omega) _
 have hs1:PtS n w [] ts W1:=by
  rw [←hW1]
  refine ⟨⟨none,0,((Blk.new _ _ _).alloc _).alloc _, [],rfl,by simp,World.ownsRow_nil _ _ _ _⟩, ?_,⟨⟨A,n,c,0,ts, ?_,hn,rfl,by omega,hn2, ?_⟩,hok,⟨A,c, .int .i64 0, ?_⟩⟩, ?_⟩
  ·have:=(Blk.new (w.alloc (.cells #[.slice none 0 0] 93)) 29 #[.int .i64 0]).alloc (.cells #[.slice A n c, .int .i64 0] 144)
   simpa using this
  ·have:=Blk.new ((w.alloc (.cells #[.slice none 0 0] 93)).alloc (.cells #[.int .i64 0] 29)) 144 #[.slice A n c, .int .i64 0]
   simpa using this
  ·exact (hr.below ((((Below.refl B w).alloc hB _).alloc (by simp;omega) _).alloc (by simp;omega) _)).more (by omega)
  ·have:=Blk.new ((w.alloc (.cells #[.slice none 0 0] 93)).alloc (.cells #[.int .i64 0] 29)) 144 #[.slice A n c, .int .i64 0]
   simpa using this
  ·rw [hW1];exact hb1
 have HS1:=hq7 hs1
 have HW1:=hq7 hW1
 have HO:=hq7 ho
 have hmf: ∀(fn:Fn) (first cap:Array Value) (w:World),(Instr.makeFunc fn first cap).run Tryz.prog w= .ok (.func fn first cap) w:=fun _ _ _ _=>rfl
 clear hs1 hW1 ho hr hok hb1
 go_enter_defers Tryz.func48,Tryz.ntmps48
 go_upto_region 3 with fail
 rw [HW1.out]
 rw [show w.heap.size+1+1=w.heap.size+2 from rfl]
 clear HW1
 go_loopg [9] (ts.length+1) (fun g x wr=> ∃acc l,PtS n w acc l wr∧l.length<g∧Hid (Cy.script g l acc=o)∧acc.length+l.length≤16777216)
 case atStart=>exact ⟨[],ts,HS1.out,by omega,HO.out,by simp;omega⟩
 case round=>
  obtain ⟨acc,l,hs,hlg,HE,hal⟩:=hrel
  have HS:=hq7 hs
  have HAL:=hq7 hal
  have HLG:=hq7 hlg
  obtain ⟨k,a1,hkn⟩:=hs.rs.left
  simp only at hkn
  have hkI:(k:Int)≤n:=by omega
  cases gk with
  | zero=>omega
  | succ f=>
  clear hs hal hlg HS1 HO
  cases l with
  | nil=>
   have he:_=o:=HE
   have HO:=hq7 (show some acc=o by rw [←he];rfl)
   obtain ⟨Ao,co,hk,hp⟩:=HS.out.out
   have c0:wr.cell? ⟨w.heap.size,0,none⟩=some (.slice Ao acc.length co):=hk.cell 0
   have c1:wr.cell? ⟨w.heap.size+1,0,none⟩=some (.int .i64 0):=HS.out.err.cell 0
   have f0:=hk.frozen 0
   have f1:=HS.out.err.frozen 0
   have hkn2:(n:Int)≤k:=by simp at hkn;omega
   have HP:=hq7 hp
   have HK:=hq7 hk
   clear he HE hp hk hkn
   have g1:=grownBy_set wr ⟨w.heap.size,0,none⟩ (.slice Ao acc.length co)
   have g2:=grownBy_set (wr.setCell ⟨w.heap.size,0,none⟩ (.slice Ao acc.length co)) ⟨w.heap.size+1,0,none⟩ (.int .i64 0)
   have HPF:=hq7 ((HP.out.step g1 (show w.heap.size<w.heap.size+3 by omega)).step g2 (show w.heap.size+1<w.heap.size+3 by omega))
   have hkf:=((HK.out.ay 0 (.slice Ao acc.length co)).far (p:=⟨w.heap.size+1,0,none⟩) (show w.heap.size≠w.heap.size+1 by omega) (.int .i64 0)).cell 0
   have hef:=((HS.out.err.far (p:=⟨w.heap.size,0,none⟩) (show w.heap.size+1≠w.heap.size by omega) (.slice Ao acc.length co)).ay 0 (.int .i64 0)).cell 0
   have HBF:=hq7 (((HS.out.bel.setCell (p:=⟨w.heap.size,0,none⟩) (Nat.le_refl _) (.slice Ao acc.length co))).setCell (p:=⟨w.heap.size+1,0,none⟩) (Nat.le_succ _) (.int .i64 0))
   simp at hkf hef
   have HKF:=hq7 hkf
   have HEF:=hq7 hef
   clear g1 g2 hkf hef
   go_wp2
   refine leaves_cons (f:=84) (args:= #[.pointer (some ⟨w.heap.size,0,none⟩), .pointer (some ⟨w.heap.size+1,0,none⟩)]) (by simp) (by simp [go_sem]) ?_
   refine (L9 w.heap.size (w.heap.size+1) _).mono ?_
   rintro e u' w'' ⟨rfl,rfl,rfl⟩
   have c0':=HKF.out
   have c1':=HEF.out
   simp [Leaves,settle,results,Tryz.results48,go_sem,c0',c1']
   exact ⟨HBF.out,by rw [←HO.out];exact ⟨_,rfl,HPF.out⟩⟩
  | cons t r=>
  have he:_=o:=HE
  rw [Cy.script] at he
  have hkn2:(k:Int)<n:=by simp at hkn;omega
  have hh:=CU _ 1 ⟨#[67,82,69,65,84,69]⟩ _ _ HS.out.rs (by decide)
  by_cases hcr:t.kind=1∧t.text=Cy.fK
  case neg=>
   rw [show hv 1 (⟨#[67,82,69,65,84,69]⟩:ByteArray).data.toList (t :: r)=none from by show hv 1 Cy.fK (t :: r)=none;rw [hv,if_neg hcr]] at hh
   rw [if_neg hcr] at he
   have HH:=hq7 hh
   have HO:=hq7 he
   clear hh he HE hcr hkn
   go_wp2_with fail
   refine HH.out.mono ?_
   rintro e w3 ⟨rfl,hr3,hg3⟩
   have HG3:=hq7 hg3
   clear hr3 hg3
   go_wp2_with fail
   refine (dX _ _).mono ?_
   rintro e w4 ⟨rfl,rfl⟩
   rw [←HO.out]
   exact og HS.out HG3.out rfl rfl
  rw [show hv 1 (⟨#[67,82,69,65,84,69]⟩:ByteArray).data.toList (t :: r)=some r from by show hv 1 Cy.fK (t :: r)=some r;rw [hv,if_pos hcr]] at hh
  rw [if_pos hcr] at he
  obtain ⟨E,hE⟩: ∃E,Cy.pats (r.length+1) r acc=E:=⟨_,rfl⟩
  rw [hE] at he
  have HH:=hq7 hh
  have HX:=hq7 he
  have HEE:=hq7 hE
  clear hh he HE hE hcr hkn
  go_wp2_with fail
  refine HH.out.mono ?_
  rintro e w3 ⟨rfl,hr3,hg3⟩
  have HS3:=hq7 (HS.out.step hr3 hg3)
  clear hr3 hg3 HS a1
  go_wp2_with fail
  refine (dR _ _).mono ?_
  rintro e w4 ⟨rfl,rfl⟩
  go_wp2_with fail
  go_loopg [20] (r.length+1) (fun g x wi=> ∃acc' l',PtS n w acc' l' wi∧l'.length<g∧Hid (Cy.pats g l' acc'=E)∧acc'.length+l'.length≤16777216∧l'.length≤r.length)
  case atStart=>exact ⟨acc,r,HS3.out,by omega,HEE.out,by have:=HAL.out;simp at this;omega,Nat.le_refl _⟩
  case round=>
   obtain ⟨acc',l',hs,hlg,HE,hal,hlr⟩:=hrel
   have HS:=hq7 hs
   have HAL2:=hq7 hal
   have HLG2:=hq7 hlg
   have HLR:=hq7 hlr
   cases gk with
   | zero=>omega
   | succ fi=>
   clear hs hal hlg hlr HS3 HEE
   have he:_=E:=HE
   rw [Cy.pats] at he
   have hp:=Dn HS.out.rs
   obtain ⟨Ao,co,hko,hpo⟩:=HS.out.out
   obtain ⟨al,hal⟩: ∃n,acc'.length=n:=⟨_,rfl⟩
   rw [hal] at hko hpo
   have c0:wr.cell? ⟨w.heap.size,0,none⟩=some (.slice Ao al co):=hko.cell 0
   have f0:=hko.frozen 0
   have HKO:=hq7 hko
   have HPO:=hq7 hpo
   have HALE:=hq7 hal
   have hlt0:=hko.lt
   have hpd:=Dn (HS.out.rs.kept (w':=wr.drew) (below_drewN (Below.refl _ _) 1))
   clear HE hp hko hpo hal
   cases hc:Cy.gV l' with
   | none=>
    rw [hc] at he hpd
    have HO:=hq7 (show none=o by rw [←HX.out,←he])
    have HP:=hq7 hpd
    clear hc he hpd
    go_wp2_with fail
    refine wp_region_any (by kernel_rfl) ?_
    change wpAny _ _ _ _ _ _ _ (World.drew _)
    refine wpAny_ready (rs:= [0,1]) (by kernel_rfl) (by simp) ?_
    refine AllReady.cons rfl (fun K hK=> ?_) (AllReady.cons rfl (fun K hK=> ?_) AllReady.nil)
    ·go_simp
     refine hK _ _ ?_
     clear hK K
     refine wpAny_ready (rs:= [1]) (by kernel_rfl) (by simp) ?_
     refine AllReady.cons rfl (fun K hK=> ?_) AllReady.nil
     go_simp
     refine hK _ _ ?_
     clear hK K
     refine wpAny_ready (rs:= [2]) (by kernel_rfl) (by simp) ?_
     refine AllReady.cons rfl (fun K hK=> ?_) AllReady.nil
     go_simp
     refine HP.out.mono ?_
     rintro e w7 ⟨hg7,rfl⟩
     rw [←HO.out]
     exact og HS.out (aT (iP (bF wr _) 1) hg7) rfl rfl
    ·go_simp
     refine hK _ _ ?_
     clear hK K
     refine wpAny_ready (rs:= [0,2]) (by kernel_rfl) (by simp) ?_
     refine AllReady.cons rfl (fun K hK=> ?_) (AllReady.cons rfl (fun K hK=> ?_) AllReady.nil)
     ·go_simp
      refine hK _ _ ?_
      clear hK K
      refine wpAny_ready (rs:= [2]) (by kernel_rfl) (by simp) ?_
      refine AllReady.cons rfl (fun K hK=> ?_) AllReady.nil
      go_simp
      refine HP.out.mono ?_
      rintro e w7 ⟨hg7,rfl⟩
      rw [←HO.out]
      exact og HS.out (aT (iP (bF wr _) 1) hg7) rfl rfl
     ·go_simp
      refine HP.out.mono ?_
      rintro e w7 ⟨hg7,rfl⟩
      rw [←HO.out]
      exact og HS.out (aT (iP (bF wr _) 1) hg7) rfl rfl
   | some q=>
   obtain ⟨p,l1⟩:=q
   rw [hc] at he hpd
   try simp only at he
   have HE2:=hq7 he
   have HPT:=hq7 (Cy.BM hc HS.out.rs.ok HS.out.rs.len)
   have hcx:Calls Tryz.prog 87 #[.pointer (some ⟨w.heap.size+2,0,none⟩)] wr.drew fun e w'=> ∃v,e= .returned v∧(vF w' wr.heap.size v p∧RS (n,w.heap.size) (w.heap.size+2) l1 w'∧wr.drew.grownBy w' (some (w.heap.size+2))):=hpd.mono fun e w' ⟨h1,u,h2,h3,h4⟩=>⟨u,h2,h3,h4,h1⟩
   have HP:=hq7 hcx
   have hall:al<536870912:=by have:=HAL2.out;have:=HALE.out;omega
   have HKK:Hid (∀w',wr.drew.grownBy w' (some (w.heap.size+2))→w'.cell? ⟨w.heap.size,0,none⟩=some (.slice Ao al co)∧w'.frozen? ⟨w.heap.size,0,none⟩=false∧w.heap.size<w'.heap.size):=fun w' hg=>by
    have hk:=(show Blk wr.drew _ _ _ from HKO.out).grown hg (fun e=>by have:=Option.some.inj e;omega)
    exact ⟨hk.cell 0,hk.frozen 0,hk.lt⟩
   have hsz3:w.heap.size+3≤wr.heap.size:=HS.out.sz
   clear hc he hpd hcx
   go_wp2_with fail
   refine wp_region_noPanic ?_
   go_region_law (first |(refine nZ 87 rfl (by go_simp) HP.out ?_;rintro u w7 ⟨hu7,hr7,hg7⟩;obtain ⟨hk7,hf7,hz7⟩:=HKK.out _ hg7;obtain ⟨sn,sp,rfl,hn7,hp7⟩:=hu7;obtain ⟨A1,c1,rfl⟩:=ak hn7;obtain ⟨A2,c2,rfl⟩:=hp7.form;have HPC:=hq7 (show eG w7 (w.heap.size+3) (p, [ST p.first,ST p.word,ST p.other, .slice A1 p.names.length c1, .slice A2 p.props.length c2]) from ⟨_,_,rfl,own_base hn7 hsz3,hp7.base hsz3⟩);have hg7':=aT (iP (bF wr (some (w.heap.size+2))) 1) hg7;have HPO7:=hq7 (HPO.out.step hg7' (by omega));have HS7:=hq7 (HS.out.step hr7 hg7');obtain ⟨ll,e1,e2,e3⟩:=HPO7.out;rw [HALE.out] at e3;have H1:=hq7 e1;have H2:=hq7 e2;have H3:=hq7 e3;have hsz7:w.heap.size+3≤w7.heap.size:=HS7.out.sz;clear hn7 hp7 hr7 e1 e2 e3 hg7') |(refine lZ rfl (.tmp 20) (.tmp 23) 93 102 (.agg #[.string ⟨#[]⟩, .string ⟨#[]⟩, .string ⟨#[]⟩, .slice none 0 0, .slice none 0 0]) 5 96 Tryz.underlying93 Mc rfl (by decide) (by decide) rfl (w.heap.size+3) (.slice Ao al co) al (ll.flatMap Prod.snd) _ rfl H3.out [ST p.first,ST p.word,ST p.other, .slice A1 p.names.length c1, .slice A2 p.props.length c2] _ rfl rfl (by simp [Value.oneCell',ST]) rfl hall hsz7 ?_;intro v9 w9 hown9 hgr9 hwh9 hb9;obtain ⟨A9,c9,rfl⟩:=ak hown9;have hk9:w9.cell? ⟨w.heap.size,0,none⟩=some (.slice Ao al co):=(hb9.cell (show w.heap.size<w.heap.size+3 by omega)).trans hk7;have hf9:w9.frozen? ⟨w.heap.size,0,none⟩=false:=(hb9.frozen (show w.heap.size<w.heap.size+3 by omega)).trans hf7))
   all_goals (refine NoPanic.normal ?_)
   all_goals
    have hset:=grownBy_set w9 ⟨w.heap.size,0,none⟩ (.slice A9 (al+1) c9)
    have hpo9:=fB.put (v:= .slice Ao al co) (v':= .slice A9 (al+1) c9) (ps:=acc') H1.out H2.out HPC.out (by rw [HALE.out];exact H3.out) hgr9 (by rw [HALE.out];exact hown9)
    have hlen9:(acc' ++ [p]).length=al+1:=by rw [List.length_append,HALE.out];rfl
    have HS9:=hq7 (show PtS n w (acc' ++ [p]) l1 (w9.setCell ⟨w.heap.size,0,none⟩ (.slice A9 (al+1) c9)) by
     obtain ⟨Ax,cx,hkx,-⟩:=HS7.out.out
     have hk9b:=(hkx.below hb9 (show w.heap.size<w.heap.size+3 by omega)).ay 0 (.slice A9 (al+1) c9)
     simp at hk9b
     exact ⟨⟨A9,c9,by rw [hlen9];exact hk9b,by rw [hlen9];exact hpo9.step hset (show w.heap.size<w.heap.size+3 by omega)⟩,
      (HS7.out.err.below hb9 (by omega)).far (p:=⟨w.heap.size,0,none⟩) (show w.heap.size+1≠w.heap.size by omega) _,
      (HS7.out.rs.below hb9 (by omega)).lower hset (Nat.le_refl _) (show w.heap.size≠w.heap.size+2 by omega),(HS7.out.bel.trans (hb9.mono (by omega))).setCell (p:=⟨w.heap.size,0,none⟩) (Nat.le_refl _) _⟩)
    have HLE:=hq7 hlen9
    clear hset hpo9 hlen9 hown9 hgr9 hwh9 hb9 hk9 hf9 hk7 hf7 HS7 HPO7 H1 H2 H3 HPC
    cases hc:Cy.mark [59] l1 with
    | some l2=>
     have HM:=hq7 (dJ (z:=⟨#[59]⟩) HS9.out.rs hc)
     have he:=HE2.out
     rw [hc] at he
     have HXF:=hq7 (show Cy.script f l2 (acc' ++ [p])=o by rw [←HX.out,←he])
     have HL2:=hq7 (Cy.bg hc).2
     clear hc he
     go_wp2_with fail
     refine HM.out.mono ?_
     rintro e wm ⟨rfl,hrm,hgm⟩
     have HSm:=hq7 (HS9.out.step hrm hgm)
     clear hrm hgm
     go_wp2
     go_roundg f
     case measure=>omega
     case rel=>exact ⟨acc' ++ [p],l2,HSm.out,by have:=HLG.out;simp at this;have:=HLR.out;have:=HPT.out.2.2;have:=HL2.out;omega,HXF,by rw [HLE.out];have:=HAL2.out;have:=HALE.out;have:=HPT.out.2.2;have:=HL2.out;omega⟩
    | none=>
    have HM:=hq7 (cZ (z:=⟨#[59]⟩) HS9.out.rs hc)
    have he:=HE2.out
    rw [hc] at he
    have HE3:=hq7 he
    clear hc he
    go_wp2_with fail
    refine HM.out.mono ?_
    rintro e wm ⟨rfl,hrm,hgm⟩
    have HSm:=hq7 (HS9.out.step hrm hgm)
    clear hrm hgm HS9 HM
    cases hc:Cy.mark [44] l1 with
    | none=>
     have HM:=hq7 (cZ (z:=⟨#[44]⟩) HSm.out.rs hc)
     have he:=HE3.out
     try simp only at he
     rw [hc] at he
     have HO:=hq7 (show none=o by rw [←HX.out,←he])
     clear hc he
     go_wp2_with fail
     refine HM.out.mono ?_
     rintro e wk ⟨rfl,hrk,hgk⟩
     have HGk:=hq7 hgk
     clear hrk hgk
     go_wp2_with fail
     refine (dX _ _).mono ?_
     rintro e wj ⟨rfl,rfl⟩
     rw [←HO.out]
     exact og HSm.out HGk.out rfl rfl
    | some l2=>
     have HM:=hq7 (dJ (z:=⟨#[44]⟩) HSm.out.rs hc)
     have he:=HE3.out
     try simp only at he
     rw [hc] at he
     have HE4:=hq7 he
     have HL2:=hq7 (Cy.bg hc).2
     clear hc he
     go_wp2_with fail
     refine HM.out.mono ?_
     rintro e wk ⟨rfl,hrk,hgk⟩
     have HSk:=hq7 (HSm.out.step hrk hgk)
     clear hrk hgk
     go_wp2_with fail
     refine (dR _ _).mono ?_
     rintro e wj ⟨rfl,rfl⟩
     go_wp2
     go_roundg fi
     case measure=>omega
     case rel=>exact ⟨acc' ++ [p],l2,HSk.out,by have:=HLG2.out;have:=HPT.out.2.2;have:=HL2.out;omega,HE4,by rw [HLE.out];have:=HAL2.out;have:=HALE.out;have:=HPT.out.2.2;have:=HL2.out;omega,by have:=HLR.out;have:=HPT.out.2.2;have:=HL2.out;omega⟩
end Go.Proofs.YtoofbflplhbpbaaGreatDoor
namespace Go.Proofs.YtoofbflplhbpbaaGreatDoor
open Go.RowKit Go.Maps
theorem Dq:Keyed Tryz.prog 3:=int_keyed Tryz.underlying3
theorem qI:Keyed Tryz.prog 9:=string_keyed Tryz.underlying9
theorem Dt (w:World):(zeroValue 3).run Tryz.prog w= .ok (.int .i64 0) w:=by kernel_rfl
abbrev ZL:DataW Unit:= .lit (.int .i64 0)
theorem wf64 {n:Int} (h:Cel.In64 n):(Lit.int .i64 n).wf=true:=by
 unfold Cel.In64 at h
 simp only [Lit.wf,Bool.and_eq_true,decide_eq_true_eq]
 exact h
structure aS (w:World) (b:Nat) (l:List Int):Prop where
 ex: ∃(n:Nat) (D:DataW Unit),n≤l.length∧w.ownsMap Tryz.prog 3 (plainElem Tryz.prog 3) b n D∧IsMap D∧ ∀i,Cel.In64 i→D.atKey (.int .i64 i) ZL= .lit (.int .i64 (l.count i:Nat))
structure bn (w:World) (b:Nat) (l:List (List UInt8)):Prop where
 ex: ∃(n:Nat) (D:DataW Unit),n≤l.length∧w.ownsMap Tryz.prog 9 (plainElem Tryz.prog 3) b n D∧Tidy D∧(∀t,D.atKey (.string t) ZL= .lit (.int .i64 (l.count t:Nat)))∧ ∀t,has D (.string t)=decide (t∈l)
section
variable {w w':World} {b:Nat}
theorem aS.made (w:World):aS (w.alloc (.map #[] 0)) w.heap.size []:=⟨0, .map [],Nat.le_refl _,World.ownsMap_made _ _ _ _,isMap_empty,fun i _=>rfl⟩
theorem bn.made (w:World):bn (w.alloc (.map #[] 0)) w.heap.size []:=⟨0, .map [],Nat.le_refl _,World.ownsMap_made _ _ _ _,tidy_empty,fun t=>rfl,fun t=>rfl⟩
theorem aS.lt {l:List Int} (h:aS w b l):b<w.heap.size:=by obtain ⟨n,D,-,h,-⟩:=h.ex;exact h.lt
theorem bn.lt {l:List (List UInt8)} (h:bn w b l):b<w.heap.size:=by obtain ⟨n,D,-,h,-⟩:=h.ex;exact h.lt
theorem aS.kept {row:Option Nat} {l:List Int} (h:aS w b l) (hg:w.grownBy w' row) (hne:some b≠row):aS w' b l:=by obtain ⟨n,D,h1,h,h2⟩:=h.ex;exact ⟨n,D,h1,h.kept hg hne,h2⟩
theorem bn.kept {row:Option Nat} {l:List (List UInt8)} (h:bn w b l) (hg:w.grownBy w' row) (hne:some b≠row):bn w' b l:=by obtain ⟨n,D,h1,h,h2⟩:=h.ex;exact ⟨n,D,h1,h.kept hg hne,h2⟩
theorem aS.below {l:List Int} (h:aS w b l) (hb:Below w.heap.size w w'):aS w' b l:=h.kept (bJ hb none) (by simp)
theorem bn.below {l:List (List UInt8)} (h:bn w b l) (hb:Below w.heap.size w w'):bn w' b l:=h.kept (bJ hb none) (by simp)
end
theorem vI {α:Type} [BEq α] [LawfulBEq α] [DecidableEq α] (l:List α) (x i:α):(l ++ [x]).count i=l.count i+if x=i then 1 else 0:=by
 rw [List.count_append,List.count_singleton]
 by_cases h:x=i<;> simp [h]
theorem aS.look {w:World} {b:Nat} {l:List Int} (h:aS w b l) {t:TypeId} (ht:Tryz.prog.underlying t=some (.map 3 3)) {i:Int} (hi:Cel.In64 i):(Instr.lookup t (.map (some b)) (.int .i64 i) false).run Tryz.prog w= .ok (.int .i64 (l.count i:Nat)) w:=by
 obtain ⟨n,D,-,hown,-,hc⟩:=h.ex
 obtain ⟨c,hrun,hat,-⟩:=hown.lookup_int Dq ht Tryz.underlying3 (Dt _) (keyOf_int_mk Tryz.underlying3 (wf64 hi))
 rw [hc i hi] at hat
 have he:c=((l.count i:Nat):Int):=by injection hat with hat;injection hat with _ hat;exact hat.symm
 exact he▸hrun
theorem bn.look {w:World} {b:Nat} {l:List (List UInt8)} (h:bn w b l) {t:TypeId} (ht:Tryz.prog.underlying t=some (.map 9 3)) {s:ByteArray} (hs:s.size≤maxLen):(Instr.lookup t (.map (some b)) (.string s) false).run Tryz.prog w= .ok (.int .i64 (l.count s.data.toList:Nat)) w:=by
 obtain ⟨n,D,-,hown,-,hc,-⟩:=h.ex
 obtain ⟨c,hrun,hat,-⟩:=hown.lookup_int qI ht Tryz.underlying3 (Dt _) (Go.WideMaps.keyOf_string_mk Tryz.underlying9 hs)
 rw [hc] at hat
 have he:c=((l.count s.data.toList:Nat):Int):=by injection hat with hat;injection hat with _ hat;exact hat.symm
 exact he▸hrun
section
variable {P:Program} (w:World) {ops:Array Oper} {rest:List Oper} {o:Oper} {a:Act} {Q:Exit→Act→World→Prop} (hg:o.guard=none)
include hg
theorem vJ {l:List Int} {b:Nat} (h:aS w b l) (hl:l.length<1152921504606846976) (m x v:Operand) (t:TypeId) (hop:o.op=Op.mapUpdate t m x v) (ht:Tryz.prog.underlying t=some (.map 3 3)) (hm:a.eval m= .map (some b)) (i:Int) (hi:Cel.In64 i) (hx:a.eval x= .int .i64 i) (hv:a.eval v= .int .i64 ((l.count i:Nat)+1:Int))
  (hK: ∀w',aS w' b (l ++ [i])→w.grownBy w' (some b)→wpList Tryz.prog ops Q rest (a.put o.dst undef) w'):wpList Tryz.prog ops Q (o :: rest) a w:=by
 obtain ⟨n,D,hn,hown,hD,hc⟩:=h.ex
 have hcl:=List.count_le_length (a:=i) (l:=l)
 refine wpList_mapUpdate_own w hg m x v t hop 3 3 Dq ht _ b n D hm hown (by unfold maxLen;omega) _ _ _ hx hv (keyOf_int_mk Tryz.underlying3 (wf64 hi)) _ [] (plainElem_int Tryz.underlying3 (wf64 (by unfold Cel.In64;omega))) ?_
 intro w1 hown1 hgrow
 refine hK w1 ⟨n+1,_,by rw [List.length_append];simp;omega,hown1,IsMap.put hD (.int .i64 i) _,fun j hj=> ?_⟩ hgrow
 rw [vI]
 by_cases e:i=j
 ·subst e
  rw [atKey_put_same hD (k:= .int .i64 i) trivial,if_pos rfl]
  simp
 ·rw [atKey_put_other (k':= .int .i64 j) (by intro h;cases h;exact e rfl),hc j hj,if_neg e,Nat.add_zero]
theorem qJ {l:List (List UInt8)} {b:Nat} (h:bn w b l) (hl:l.length<1152921504606846976) (m x v:Operand) (t:TypeId) (hop:o.op=Op.mapUpdate t m x v) (ht:Tryz.prog.underlying t=some (.map 9 3)) (hm:a.eval m= .map (some b)) (s:ByteArray) (hs:s.size≤maxLen) (hx:a.eval x= .string s) (hv:a.eval v= .int .i64 ((l.count s.data.toList:Nat)+1:Int))
  (hK: ∀w',bn w' b (l ++ [s.data.toList])→w.grownBy w' (some b)→wpList Tryz.prog ops Q rest (a.put o.dst undef) w'):wpList Tryz.prog ops Q (o :: rest) a w:=by
 obtain ⟨n,D,hn,hown,hD,hc,hh⟩:=h.ex
 have hcl:=List.count_le_length (a:=s.data.toList) (l:=l)
 refine wpList_mapUpdate_own w hg m x v t hop 9 3 qI ht _ b n D hm hown (by unfold maxLen;omega) _ _ _ hx hv (Go.WideMaps.keyOf_string_mk Tryz.underlying9 hs) _ [] (plainElem_int Tryz.underlying3 (wf64 (by unfold Cel.In64;omega))) ?_
 intro w1 hown1 hgrow
 refine hK w1 ⟨n+1,_,by rw [List.length_append];simp;omega,hown1,Tidy.put hD (k:= .string s.data.toList) trivial _,fun j=> ?_,fun j=> ?_⟩ hgrow
 ·rw [vI]
  by_cases e:s.data.toList=j
  ·subst e
   rw [atKey_put_same hD.isMap (k:= .string s.data.toList) trivial,if_pos rfl]
   simp
  ·rw [atKey_put_other (k':= .string j) (by intro h;cases h;exact e rfl),hc j,if_neg e,Nat.add_zero]
 ·by_cases e:s.data.toList=j
  ·subst e
   rw [has_put_same hD.isMap (k:= .string s.data.toList) trivial]
   simp
  ·rw [has_put_other (k':= .string j) (by intro h;cases h;exact e rfl),hh j]
   simp [Ne.symm e]
end
theorem Same1.Du {T n₁ b:Nat} {A B:World} {l:List (List UInt8)} (h:Same1 T n₁ A B) (hc:bn A b l):bn B b l:=by
 obtain ⟨n,D,h1,⟨es,clock,hb,F,hs,hD⟩,h2⟩:=hc.ex
 exact ⟨n,D,h1,⟨es,clock,h.block b _ hb (fun r e=>by cases e) (fun c fz e=>by cases e),F,hs,hD⟩,h2⟩
section
variable {F:Fence} {nF:Nat} (w:World) {ops:Array Oper} {rest:List Oper} {o:Oper} {a:Act} {Q:Exit→Act→World→Prop} (hg:o.guard=none)
include hg
theorem Me {l:List (List UInt8)} {b:Nat} (h:bn w b l) (hl:l.length<1152921504606846976) (m x v:Operand) (t:TypeId) (hop:o.op=Op.mapUpdate t m x v) (ht:Tryz.prog.underlying t=some (.map 9 3)) (hm:a.eval m= .map (some b)) (s:ByteArray) (hs:s.size≤maxLen) (hx:a.eval x= .string s) (hv:a.eval v= .int .i64 ((l.count s.data.toList:Nat)+1:Int))
  (hK: ∀w',bn w' b (l ++ [s.data.toList])→w.grownBy w' (some b)→wpListIn F nF Tryz.prog ops Q rest (a.put o.dst undef) w'):wpListIn F nF Tryz.prog ops Q (o :: rest) a w:=by
 obtain ⟨n,D,hn,hown,hD,hc,hh⟩:=h.ex
 have hcl:=List.count_le_length (a:=s.data.toList) (l:=l)
 refine wpListIn_mapUpdate_own w hg m x v t hop 9 3 qI ht _ b n D hm hown (by unfold maxLen;omega) _ _ _ hx hv (Go.WideMaps.keyOf_string_mk Tryz.underlying9 hs) _ [] (plainElem_int Tryz.underlying3 (wf64 (by unfold Cel.In64;omega))) ?_
 intro w1 hown1 hgrow
 refine hK w1 ⟨n+1,_,by rw [List.length_append];simp;omega,hown1,Tidy.put hD (k:= .string s.data.toList) trivial _,fun j=> ?_,fun j=> ?_⟩ hgrow
 ·rw [vI]
  by_cases e:s.data.toList=j
  ·subst e
   rw [atKey_put_same hD.isMap (k:= .string s.data.toList) trivial,if_pos rfl]
   simp
  ·rw [atKey_put_other (k':= .string j) (by intro h;cases h;exact e rfl),hc j,if_neg e,Nat.add_zero]
 ·by_cases e:s.data.toList=j
  ·subst e
   rw [has_put_same hD.isMap (k:= .string s.data.toList) trivial]
   simp
  ·rw [has_put_other (k':= .string j) (by intro h;cases h;exact e rfl),hh j]
   simp [Ne.symm e]
end
end Go.Proofs.YtoofbflplhbpbaaGreatDoor
