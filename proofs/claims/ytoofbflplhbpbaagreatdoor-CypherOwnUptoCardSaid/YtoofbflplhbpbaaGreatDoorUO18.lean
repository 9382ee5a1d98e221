/- Contracts and plain laws,part 18. -/
import Derived.Test.YtoofbflplhbpbaaGreatDoorUO15
import Derived.Test.YtoofbflplhbpbaaGreatDoorUO17
import Derived.Below
import Derived.Sort.Grow
import Derived.StillTail
set_option maxHeartbeats 64000000
set_option maxRecDepth 1000000
set_option linter.all false
namespace Go.Proofs.YtoofbflplhbpbaaGreatDoor
open Go Go.RowKit
variable {P:Program} {md:Region.Mode} {ops:Array Oper} {C:World->Prop}
def IL (P:Program) (md:Region.Mode) (ops:Array Oper) (C:World->Prop) (n:Nat) (L:Array Bool->Act->Prop):Nat->Array Bool->Act->Prop
 | 0,listed,a=>L listed a
 | f+1,listed,a=>Region.ready md ops listed≠ []/\ ∀i∈Region.ready md ops listed,i<n/\qOp P ops C i (IL P md ops C n L f (listed.setIfInBounds i true)) a
theorem ZP {n g:Nat} {L:Array Bool->Act->Prop} {Q':Exit->Act->World->Prop} (hL: ∀listed a w,C w->L listed a->wpAny P md ops Q' g listed a w):
  ∀(f:Nat) (listed:Array Bool) (a:Act) (w:World),C w->IL P md ops C n L f listed a->wpAny P md ops Q' (f+g) listed a w
 | 0,listed,a,w,hw,h=>by rw [akA];exact hL _ _ _ hw h
 | f+1,listed,a,w,hw,h=>by
  rw [Nat.add_right_comm]
  exact ⟨fun h0=>absurd h0 h.1,fun i hi=>wpOp_of_qOp hw (fun a' w' hw' h'=>ZP hL f _ a' w' hw' h') (h.2 i hi).2⟩
theorem ZQ {n i:Nat} {oi:Oper} {v:Value} {L:Array Bool->Act->Prop} (hi:ops[i]?=some oi) (hsel: ∀(j:Nat) (o:Oper) cs b,ops[j]?=some o->o.op≠ .select cs b)
  (hs:Region.sinkB md ops n=true) (hc:Region.chainB md ops n=true) (hn:n<ops.size) (hin:i<n) (hdone: ∀listed a,L listed a-> ∀j∈Region.ready md ops listed,n<=j):
  ∀(f:Nat) (listed:Array Bool) (a:Act),HeadInv md ops n listed->
   (∀j oj,ops[j]?=some oj->j≠i->listed.getD j true=false->(∀e∈oj.after,Region.binds md e=true->e.on≠i)->oi.apart ops oj=true)->
   i∈Region.ready md ops listed->YieldsIn P ops C oi v a->IL P md ops C n L f (listed.setIfInBounds i true) (a.put oi.dst v)->IL P md ops C n L (f+1) listed a
 | 0,listed,a,inv,_,hr,hy,H=>by
  refine ⟨List.ne_nil_of_mem hr,fun j hj=> ?_⟩
  have hjn:j<n:=Nat.lt_of_not_le fun h=>absurd hj (tail_waits hs hc hn inv _ i rfl hin (mem_ready.1 hr).1 j h)
  by_cases hji:j=i
  ·subst hji;exact ⟨hjn,hy.qOp hi H⟩
  exact absurd (hdone _ _ H j (ready_mono hj hji)) (by omega)
 | f+1,listed,a,inv,hfree,hr,hy,H=>by
  have hun:=(mem_ready.1 hr).1;refine ⟨List.ne_nil_of_mem hr,fun j hj=> ?_⟩
  have hjn:j<n:=Nat.lt_of_not_le fun h=>absurd hj (tail_waits hs hc hn inv _ i rfl hin hun j h)
  by_cases hji:j=i
  ·subst hji;exact ⟨hjn,hy.qOp hi H⟩
  obtain ⟨hjun,oj,hoj,hall⟩:=mem_ready.1 hj
  have hnot: ∀e∈oj.after,Region.binds md e=true->e.on≠i:=fun e he hb heq=>by
   have h1:=hall e he hb;rw [heq,getD_both hun] at h1;cases h1
  have h2:=qOp_put hoj (hfree j oj hoj hji hjun hnot) (fun cs b=>hsel i oi cs b hi) (fun cs b=>hsel j oj cs b hoj) hy (H.2 j (ready_mono hj hji)).2
  refine ⟨hjn,qOp_mono (fun a' h3=>ZQ hi hsel hs hc hn hin hdone f (listed.setIfInBounds j true) a' (inv.set hj hjn) (fun k ok hk hki hu hno=>hfree k ok hk hki ?_ hno) (ready_mono hr (Ne.symm hji)) h3.1 ?_) h2⟩
  ·by_cases hjk:j=k
   ·subst hjk;exact hjun
   rw [getD_set_ne true hjk] at hu;exact hu
  rw [Array.setIfInBounds_comm _ _ hji];exact h3.2
theorem ZR {n g:Nat} {Lq:Act->Prop} (hsel:Region.noSelect ops=true) (hs:Region.sinkB md ops n=true) (hc:Region.chainB md ops n=true) (hn:n<ops.size):
  ∀(l:List Oper) (k:Nat) (listed:Array Bool) (a:Act),(∀j,j<l.length->l[j]?=ops[k+j]?)->k+l.length=n->HeadInv md ops n listed->
  Region.lexHead md ops g l.length k listed=true->wpQuiet P ops C Lq l a->IL P md ops C n (fun listed' a'=>Region.seqB md ops g n listed'=true/\Lq a') l.length listed a
 | [],k,listed,a,_,hk,_,hB,h=>by
  obtain rfl:k=n:=by simpa using hk
  exact ⟨by simpa [Region.lexHead] using hB,h⟩
 | o :: l,k,listed,a,hl,hk,inv,hB,h=>by
  have h0:ops[k]?=some o:=by simpa using (hl 0 (by simp)).symm
  simp only [acd,Region.lexHead,adr] at hB;obtain ⟨⟨hr,hf⟩,hB'⟩:=hB
  have hkn:k<n:=by simp only [acd] at hk;omega
  have hr':k∈Region.ready md ops listed:=by simpa using hr
  have hst:qOp P ops C k (wpQuiet P ops C Lq l) a:=by unfold qOp;simp only [h0];exact h
  obtain ⟨v,hy,hK⟩:=yieldsIn_of_qOp h0 hst
  exact ZQ h0 (Region.noSelect_spec hsel) hs hc hn hkn (fun listed' a' hL=>seqB_ready hL.1) l.length listed a inv (Region.free_spec h0 hf) hr' hy
   (ZR hsel hs hc hn l (k+1) _ _ (fun j hj=>by have:=hl (j+1) (by simp;omega);simpa [akR,ali 1 j] using this) (by simp only [acd] at hk;omega) (inv.set hr' hkn) hB' hK)
theorem ZT {id:Nat} {Q:Exit->Act->World->Prop} {a:Act} {w:World} {l:List Oper} (n:Nat) (hm:P.follows .mixedOrders=true) (hB:Region.lexTailB .any l.toArray n=true) (hC:C {w with drawn:=w.drawn+1})
  (h:wpQuiet P l.toArray C (fun a'=> ∀w',C w'->wpList P l.toArray Q (l.drop n) a' w') (l.take n) a):(Code.region id l.toArray true).wp P Q a w:=by
 simp only [Region.lexTailB,adr,acZ] at hB;obtain ⟨⟨⟨⟨hsel,hn⟩,hs⟩,hc⟩,hlex⟩:=hB
 have hn':n<l.length:=by simpa using hn
 have htl:(l.take n).length=n:=by simp;omega
 have hdl:(l.drop n).length=l.toArray.size - n:=by simp
 have inv0:HeadInv .any l.toArray n (Array.replicate l.toArray.size false):=
  ⟨by simp,fun j oj _ hl=>(by rw [getD_replicate_false] at hl;cases hl),fun t _ ht=>getD_in (by simpa using ht) (getD_replicate_false _ _)⟩
 have H:=ZR (md:= .any) (g:=l.toArray.size - n) hsel hs hc hn (l.take n) 0 _ a (fun j hj=>by
  have hj':j<n:=by rw [htl] at hj;exact hj
  simp [hj']) (by simpa using htl) inv0 (by rw [htl];exact hlex) h
 refine wp_region_any hm ?_
 have:=ZP (Q':=Q) (g:=l.toArray.size - n) (fun listed a' w' hw hL=>by
  have:=wpAny_of_seq (md:= .any) (Q':=Q) (l.drop n) n listed a' w' (fun j=>by simp [aoH]) (by rw [hdl];exact hL.1) (hL.2 w' hw)
  rwa [hdl] at this) _ _ _ {w with drawn:=w.drawn+1} hC H
 rw [htl,show n+(l.toArray.size - n)=l.toArray.size by omega] at this
 exact this
def wide (w:World) (n:Nat) (os:Array Obj):World:={w with drawn:=n,heap:=w.heap ++ os}
structure zB where
 n:Nat
 os:Array Obj
instance:Inhabited zB:=⟨⟨0,#[]⟩⟩
theorem RH (w:World) (n:Nat) (os:Array Obj):w.heap.size<=(wide w n os).heap.size:=by unfold wide;rw [aoP];omega
theorem xK (w:World) (n:Nat) (os:Array Obj):Below w.heap.size w (wide w n os):=⟨rfl,rfl,rfl,RH w n os,fun k hk=>by unfold wide;exact amF hk⟩
theorem nN {w:World} {a:Addr} {v:Value} (hb:a.block<w.heap.size) (h:w.cell? a=some v) (n:Nat) (os:Array Obj):(wide w n os).cell? a=some v:=by rw [<-h];exact (xK w n os).cell hb
theorem RI {w w':World} (h:Below w.heap.size w w'): ∃p:zB,w'=wide w p.n p.os:=by
 refine ⟨⟨w'.drawn,w'.heap.extract w.heap.size w'.heap.size⟩, ?_⟩
 have hh:w'.heap=w.heap ++ w'.heap.extract w.heap.size w'.heap.size:=by
  refine Array.ext_getElem? fun i=> ?_
  rcases akZ i w.heap.size with hi | hi
  ·rw [amF hi,h.block i hi]
  rw [Array.getElem?_append_right hi,Array.getElem?_extract];have:=h.size
  split
  ·congr 1;omega
  exact amr (by omega)
 have h1:=h.os;have h2:=h.tape;have h3:=h.output;cases w';cases w;simp only [wide] at*
 subst h1 h2 h3;rw [<-hh]
theorem IQ {f:FuncId} {args:Array Value} {w:World} {n:Nat} {os:Array Obj} {v:Value} (h:Calls P f args (wide w n os) fun e w'=>e= .returned v/\Below (wide w n os).heap.size (wide w n os) w'):
  Calls P f args (wide w n os) fun e w'=>e= .returned v/\ ∃p:zB,w'=wide w p.n p.os:=
 h.mono fun _ _ ⟨he,hb⟩=>⟨he,RI ((xK w n os).trans (hb.mono (RH w n os)))⟩
theorem ZU {id:Nat} {Q:Exit->Act->World->Prop} {a:Act} {w:World} {l:List Oper} (n:Nat) (hm:P.follows .mixedOrders=true) (hB:Region.lexTailB .any l.toArray n=true)
  (h:wpQuiet P l.toArray (fun w'=> ∃p:zB,w'=wide w p.n p.os) (fun a'=> ∀w',(∃p:zB,w'=wide w p.n p.os)->wpList P l.toArray Q (l.drop n) a' w') (l.take n) a):(Code.region id l.toArray true).wp P Q a w:=
 ZT (C:=fun w'=> ∃p:zB,w'=wide w p.n p.os) n hm hB (RI ⟨rfl,rfl,rfl,ab1 _,fun _ _=>rfl⟩) h
theorem IU {id:Nat} {Q:Exit->Act->World->Prop} {a:Act} {w:World} {l:List Oper} (n:Nat) (hm:P.follows .mixedOrders=true) (hB:Region.lexTailB .any l.toArray n=true)
  (h:wpQuiet P l.toArray (fun w'=> ∃n,w'=w.drewN n) (fun a'=> ∀w',(∃n,w'=w.drewN n)->wpList P l.toArray Q (l.drop n) a' w') (l.take n) a):(Code.region id l.toArray true).wp P Q a w:=
 ZT (C:=fun w'=> ∃n,w'=w.drewN n) n hm hB ⟨1,rfl⟩ h
theorem ahM {id:Nat} {Q:Exit->Act->World->Prop} {a:Act} {w:World} {l:List Oper} (hm:P.follows .mixedOrders=true) (hB:Region.lexB .any l.toArray=true)
  (h:wpQuiet P l.toArray (fun w'=> ∃p:zB,w'=wide w p.n p.os) (fun a'=> ∀w',(∃p:zB,w'=wide w p.n p.os)->Q .normal a' w') l a):(Code.region id l.toArray true).wp P Q a w:=
 wp_region_quiet (C:=fun w'=> ∃p:zB,w'=wide w p.n p.os) hm hB (RI ⟨rfl,rfl,rfl,ab1 _,fun _ _=>rfl⟩) (by simpa using h)
end Go.Proofs.YtoofbflplhbpbaaGreatDoor
namespace Go.Proofs.YtoofbflplhbpbaaGreatDoor
open Go.RowKit
attribute [local go_sem] Oper.semAt_some
def zO:List PanicEntry:= [{v:= .iface 140 (.agg #[]),recovered:=false}]
structure RS (q0:Nat×Nat) (b:Nat) (l:List Lex.Tok) (w:World):Prop where
 ex: ∃A n c k ts,aj w b 144 #[.slice A n c, .int .i64 (k:Nat)]/\ts.length=n/\ts.drop k=l/\k<=n/\n<=16777216/\Reads w (min b q0.2) 4 A n (oD ts)
 ok: ∀t∈l,Cy.lG t
 tot: ∃A c v,aj w b 144 #[.slice A q0.1 c,v]
theorem RS.kept {q0:Nat×Nat} {b:Nat} {l:List Lex.Tok} {w w':World} (h:RS q0 b l w) (hb:Below w.heap.size w w'):RS q0 b l w':=by
 obtain ⟨A,n,c,k,ts,hk,h1,h2,h3,h4,h5⟩:=h.ex
 exact ⟨⟨A,n,c,k,ts,hk.below hb hk.lt,h1,h2,h3,h4,h5.below (hb.mono (by have:=hk.lt;omega))⟩,h.ok,by obtain ⟨A,c,v,ht⟩:=h.tot;exact ⟨A,c,v,ht.below hb ht.lt⟩⟩
theorem RS.lt {q0:Nat×Nat} {b:Nat} {l:List Lex.Tok} {w:World} (h:RS q0 b l w):b<w.heap.size:=by
 obtain ⟨A,n,c,k,ts,hk,-⟩:=h.ex;exact hk.lt
theorem ahN {w:World} {B:Nat} {A:Option Addr} {ts:List Lex.Tok} (h:Reads w B 4 A ts.length (oD ts)) {k:Nat} {t:Lex.Tok} (hk:ts[k]?=some t):
  ∃g o,A=some ⟨g,o,none⟩/\g<B/\w.cell? ⟨g,o+k*4,none⟩=some (.int .i64 (t.kind:Int))/\w.cell? ⟨g,o+k*4+1,none⟩=some (.string ⟨t.text.toArray⟩)/\w.cell? ⟨g,o+k*4+2,none⟩=some (.int .i64 t.num)/\w.cell? ⟨g,o+k*4+3,none⟩=some (.int .i64 (t.pos:Int)):=by
 obtain ⟨hlt,-⟩:=acy.1 hk;obtain ⟨g,o,e,hg,hc⟩:=h.2 (by omega)
 have key: ∀j u,j<4->(Bz t)[j]?=some u->w.cell? ⟨g,o+k*4+j,none⟩=some u:=fun j u hj hu=>by
  have:=hc (k*4+j) u (by rw [ZO ts k t j hj hk];exact hu)
  rwa [<-akR] at this
 exact ⟨g,o,e,hg,key 0 _ (by omega) rfl,key 1 _ (by omega) rfl,key 2 _ (by omega) rfl,key 3 _ (by omega) rfl⟩
def pz:Lex.Tok:=⟨0, [],0,0⟩
def zQ (t:Lex.Tok):Value:= .agg #[.int .i64 (t.kind:Int), .string ⟨t.text.toArray⟩, .int .i64 t.num, .int .i64 (t.pos:Int)]
theorem FK {q0:Nat×Nat} (b:Nat) (l:List Lex.Tok) (w:World) (h:RS q0 b l w):
  Calls Tryz.prog 144 #[.pointer (some ⟨b,0,none⟩)] w fun e w'=>e= .returned (zQ (l.headD pz))/\Below w.heap.size w w':=by
 obtain ⟨A,n,c,k,ts,hk,h1,h2,h3,h4,h5⟩:=h.ex;clear h
 have a0:w.cell? ⟨b,0,none⟩=some (.slice A n c):=hk.cell 0
 have a1:w.cell? ⟨b,1,none⟩=some (.int .i64 (k:Nat)):=hk.cell 1;have hlt:=hk.lt
 rw [<-h1] at h5
 rcases akZ k n with hkn | hge
 ·have hkt:ts[k]?=some (l.headD pz):=by
   rw [<-h2];have hk':k<ts.length:=by omega
   rw [adC hk',alq,ab2 hk']
  obtain ⟨t,ht⟩: ∃t,l.headD pz=t:=⟨_,rfl⟩;rw [ht] at hkt⊢
  obtain ⟨g,o,rfl,hg,d0,d1,d2,d3⟩:=ahN h5 hkt;unfold zQ;have qQ:(k:Int)<n:=by omega
  have hk0:(0:Int)<=k:=by omega
  have hgw:g<w.heap.size:=by omega
  clear h1 h2 h3 h5 ht hk hkt;go_enter Tryz.func144,Tryz.ntmps144;go_wp2_with fail
  go_quiet (fail)
  go_wp2_with fail;refine IU 10 (by kernel_rfl) (by kernel_rfl) ?_
  simp only [akt,akd,adU,aeC]
  repeat (quiet_step (fail))
  refine wpQuiet_nil ?_;rintro _ ⟨m,rfl⟩;go_wp2
  exact bodyPost_ret (v:= .agg #[.int .i64 (t.kind:Int), .string ⟨t.text.toArray⟩, .int .i64 t.num, .int .i64 (t.pos:Int)]) (by simp [results,Tryz.results144,go_sem]) rfl
   ⟨rfl,((((below_drewN ((Below.refl _ _).alloc (ab1 _) _) (nq+m)).setCell (by simp) _).setCell (by simp) _).setCell (by simp) _).setCell (by simp) _⟩
 have hl:l= []:=by rw [<-h2];exact ams (by omega)
 subst hl;have qQ:(n:Int)<=k:=by omega
 clear h1 h2 h3 h5 hk;unfold zQ pz;go_enter Tryz.func144,Tryz.ntmps144;go_wp2_with fail
 go_quiet (fail)
 go_wp2
 exact bodyPost_ret (v:= .agg #[.int .i64 0, .string ⟨#[]⟩, .int .i64 0, .int .i64 0]) (by simp [results,Tryz.results144,go_sem]) rfl
  ⟨rfl,((((below_drewN ((Below.refl _ _).alloc (ab1 _) _) nq).setCell (by simp) _).setCell (by simp) _).setCell (by simp) _).setCell (by simp) _⟩
def hv (kd:Nat) (m:List UInt8):List Lex.Tok->Option (List Lex.Tok)
 | []=>none
 | t :: r=>if t.kind=kd/\t.text=m then some r else none
theorem ahO (m:List UInt8) (l:List Lex.Tok):hv 5 m l=Cy.mark m l:=by cases l<;> rfl
theorem RS.next {q0:Nat×Nat} {b:Nat} {t:Lex.Tok} {r:List Lex.Tok} {w:World} (h:RS q0 b (t :: r) w):
  ∃k:Nat,w.cell? ⟨b,1,none⟩=some (.int .i64 (k:Nat))/\w.frozen? ⟨b,1,none⟩=false/\k<1073741824/\RS q0 b r (w.setCell ⟨b,1,none⟩ (.int .i64 ((k:Int)+1))):=by
 obtain ⟨A,n,c,k,ts,hk,h1,h2,h3,h4,h5⟩:=h.ex
 have hkn:k<n:=by
  rcases akZ k n with hlt | hge
  ·exact hlt
  rw [ams (by omega)] at h2;cases h2
 refine ⟨k,hk.cell 1,hk.frozen 1,by omega,⟨⟨A,n,c,k+1,ts, ?_,h1, ?_,by omega,h4, ?_⟩,fun x hx=>h.ok x (ada _ hx),by obtain ⟨A,c,v,ht⟩:=h.tot;exact ⟨A,c, .int .i64 ((k:Int)+1),(ht.aS 1 (.int .i64 ((k:Int)+1))).cast (by simp)⟩⟩⟩
 ·have:=hk.aS 1 (.int .i64 ((k:Int)+1))
  simpa using this
 ·rw [adC (by omega)] at h2
  exact (anH h2).2
 exact h5.below ((Below.refl _ w).setCell (p:=⟨b,1,none⟩) (show min b q0.2<=b by omega) _)
theorem RS.step {q0:Nat×Nat} {b:Nat} {l:List Lex.Tok} {w w':World} (h:RS q0 b l w) (hb:Below w.heap.size w w') (o:Obj):RS q0 b l (w'.alloc o):=h.kept (hb.alloc hb.size o)
theorem kS (p:Value) (w:World):Calls Tryz.prog 85 #[p, .bool true] w fun e w'=>e= .returned (.tuple #[])/\w=w':=by
 go_enter Tryz.func85,Tryz.ntmps85;go_wp2
 go_end0
 exact ⟨rfl,rfl⟩
theorem lH (p:Value) (w:World):Calls Tryz.prog 85 #[p, .bool false] w fun e w'=>e= .panicked zO/\w=w':=by
 go_enter Tryz.func85,Tryz.ntmps85;go_wp2;exact ⟨rfl,rfl,rfl⟩
theorem ZV {q0:Nat×Nat} (b kd:Nat) (z:ByteArray) (l:List Lex.Tok) (w:World) (h:RS q0 b l w) (hkd:kd≠0):
  Calls Tryz.prog 86 #[.pointer (some ⟨b,0,none⟩), .int .i64 (kd:Nat), .string z] w fun e w'=>e= .returned (.bool (hv kd z.data.toList l).isSome)/\RS q0 b ((hv kd z.data.toList l).getD l) w'/\w.grownBy w' (some b):=by
 have HP:=ah (FK b l w h);obtain ⟨t,ht⟩: ∃t,l.headD pz=t:=⟨_,rfl⟩;rw [ht] at HP
 unfold zQ at HP;obtain ⟨zt,aO⟩: ∃zt:ByteArray,(⟨t.text.toArray⟩:ByteArray)=zt:=⟨_,rfl⟩
 rw [aO] at HP;have kC:zt.data.toList=t.text:=by rw [<-aO]
 have HR:=ah h;clear h aO;by_cases hk:t.kind=kd
 case neg=>
  have hnone:hv kd z.data.toList l=none:=by
   cases l with
   | nil=>rfl
   | cons u r=>rw [hv,ab6];rintro ⟨h1,-⟩;rw [alq] at ht;exact hk (ht▸h1)
  rw [hnone];have t1:((t.kind:Int) ==(kd:Nat))=false:=ab3.2 (by omega)
  have t2:((t.kind:Int) !=(kd:Nat))=true:=by rw [acV];omega
  clear ht hnone hk kC;go_enter Tryz.func86,Tryz.ntmps86;go_wp2_with fail
  refine HP.out.mono ?_;rintro e w1 ⟨rfl,hb⟩;have HB:=ah hb;clear hb;go_wp2;go_ret
  exact ⟨rfl,HR.out.step HB.out _,iT (HB.out.alloc HB.out.size _) _⟩
 subst hk;have hkk:((t.kind:Int) !=(t.kind:Int))=false:=by simp
 by_cases hz:t.text=z.data.toList
 case neg=>
  have hnone:hv t.kind z.data.toList l=none:=by
   cases l with
   | nil=>rfl
   | cons u r=>rw [hv,ab6];rintro ⟨-,h1⟩;rw [alq] at ht;exact hz (ht▸h1)
  rw [hnone]
  have t3:(zt.toList == z.toList)=false:=ab3.2 (by rw [Lib.toList_data,Lib.toList_data,kC];exact hz)
  clear ht hnone hz kC hkd;go_enter Tryz.func86,Tryz.ntmps86;go_wp2_with fail
  refine HP.out.mono ?_;rintro e w1 ⟨rfl,hb⟩;have HB:=ah hb;clear hb;go_wp2;go_ret
  exact ⟨rfl,HR.out.step HB.out _,iT (HB.out.alloc HB.out.size _) _⟩
 obtain ⟨r,rfl⟩: ∃r,l=t :: r:=by
  cases l with
  | nil=>rw [List.headD_nil] at ht;rw [<-ht] at hkd;exact absurd rfl hkd
  | cons u r=>rw [alq] at ht;exact ⟨r,by rw [ht]⟩
 have hsome:hv t.kind z.data.toList (t :: r)=some r:=by rw [hv,ab7 ⟨rfl,hz⟩]
 rw [hsome]
 have t3:(zt.toList == z.toList)=true:=adp.2 (by rw [Lib.toList_data,Lib.toList_data,kC];exact hz)
 clear ht hsome hz kC hkd;go_enter Tryz.func86,Tryz.ntmps86;go_wp2_with fail
 refine HP.out.mono ?_;rintro e w1 ⟨rfl,hb⟩
 obtain ⟨W2,hW2⟩: ∃W2,w1.alloc (.cells #[.int .i64 (t.kind:Int), .string zt, .int .i64 t.num, .int .i64 (t.pos:Int)] 138)=W2:=⟨_,rfl⟩
 have hr2:RS q0 b (t :: r) W2:=by rw [<-hW2];exact HR.out.step hb _
 have hg2:w.grownBy W2 (some b):=by rw [<-hW2];exact iT (hb.alloc hb.size _) _
 have hk2:aj W2 w1.heap.size 138 #[.int .i64 (t.kind:Int), .string zt, .int .i64 t.num, .int .i64 (t.pos:Int)]:=by rw [<-hW2];exact aj.new _ _ _
 obtain ⟨k,e1,e2,e3,e4⟩:=hr2.next;have HG:=ah hg2;have HN:=ah e4;have HW2:=ah hW2
 have d0:W2.cell? ⟨w1.heap.size,0,none⟩=some (.int .i64 (t.kind:Int)):=hk2.cell 0
 have d1:W2.cell? ⟨w1.heap.size,1,none⟩=some (.string zt):=hk2.cell 1
 have hki:(k:Int)<1073741824:=by omega
 clear hW2 hr2 hg2 hk2 e4 e3 hb
 go_upto_region 2 with fail
 rw [HW2.out];go_wp2;go_ret;exact ⟨rfl,HN.out,Fh HG.out (.inl rfl) _⟩
theorem RS.raw {q0:Nat×Nat} {b:Nat} {l:List Lex.Tok} {w:World} (h:RS q0 b l w): ∃k:Nat,w.cell? ⟨b,1,none⟩=some (.int .i64 (k:Nat))/\w.frozen? ⟨b,1,none⟩=false/\k<1073741824:=by
 obtain ⟨A,n,c,k,ts,hk,h1,h2,h3,h4,h5⟩:=h.ex;exact ⟨k,hk.cell 1,hk.frozen 1,by omega⟩
theorem ZW {q0:Nat×Nat} (b:Nat) (z:ByteArray) (l:List Lex.Tok) (w:World) (h:RS q0 b l w):
  Calls Tryz.prog 88 #[.pointer (some ⟨b,0,none⟩), .string z] w fun e w'=>e= .returned (.bool (Cy.mark z.data.toList l).isSome)/\RS q0 b ((Cy.mark z.data.toList l).getD l) w'/\w.grownBy w' (some b):=by
 have HC:=ah (ZV b 5 z l w h (by decide))
 rw [ahO] at HC;obtain ⟨m,hm⟩: ∃m,Cy.mark z.data.toList l=m:=⟨_,rfl⟩;rw [hm] at HC⊢
 clear hm h;go_enter Tryz.func88,Tryz.ntmps88;go_wp2_with fail;refine HC.out.mono ?_
 rintro e w1 ⟨rfl,h1,h2⟩;have H1:=ah h1;have H2:=ah h2;clear h1 h2;go_wp2;go_ret
 exact ⟨rfl,H1.out,H2.out⟩
theorem jP {q0:Nat×Nat} {b:Nat} {z:ByteArray} {l r:List Lex.Tok} {w:World} (h:RS q0 b l w) (hm:Cy.mark z.data.toList l=some r):
  Calls Tryz.prog 88 #[.pointer (some ⟨b,0,none⟩), .string z] w fun e w'=>e= .returned (.bool true)/\RS q0 b r w'/\w.grownBy w' (some b):=by
 have:=ZW b z l w h;rw [hm] at this;exact this
theorem jy {q0:Nat×Nat} {b:Nat} {z:ByteArray} {l:List Lex.Tok} {w:World} (h:RS q0 b l w) (hm:Cy.mark z.data.toList l=none):
  Calls Tryz.prog 88 #[.pointer (some ⟨b,0,none⟩), .string z] w fun e w'=>e= .returned (.bool false)/\RS q0 b l w'/\w.grownBy w' (some b):=by
 have:=ZW b z l w h;rw [hm] at this;exact this
theorem Dy {q0:Nat×Nat} {b:Nat} {x:List UInt8} {l r:List Lex.Tok} {w:World} (h:RS q0 b l w) (hx:Cy.jg l=some (x,r)):
  Calls Tryz.prog 145 #[.pointer (some ⟨b,0,none⟩)] w fun e w'=>e= .returned (.string ⟨x.toArray⟩)/\RS q0 b r w'/\w.grownBy w' (some b):=by
 cases l with
 | nil=>simp [Cy.jg] at hx
 | cons t l'=>
 rw [Cy.jg] at hx
 split at hx
 case isFalse=>cases hx
 case isTrue hk=>
 cases hx;have HP:=ah (FK b (t :: r) w h);rw [alq] at HP;unfold zQ at HP
 obtain ⟨zt,aO⟩: ∃zt:ByteArray,(⟨t.text.toArray⟩:ByteArray)=zt:=⟨_,rfl⟩;rw [aO] at HP⊢
 rw [hk] at HP;have HR:=ah h;clear h aO hk;go_enter Tryz.func145,Tryz.ntmps145
 go_wp2_with fail;refine HP.out.mono ?_;rintro e w1 ⟨rfl,hb⟩
 obtain ⟨W2,hW2⟩: ∃W2,w1.alloc (.cells #[.int .i64 1, .string zt, .int .i64 t.num, .int .i64 (t.pos:Int)] 138)=W2:=⟨_,rfl⟩
 have hr2:RS q0 b (t :: r) W2:=by rw [<-hW2];exact HR.out.step hb _
 have hg2:w.grownBy W2 (some b):=by rw [<-hW2];exact iT (hb.alloc hb.size _) _
 have hk2:aj W2 w1.heap.size 138 #[.int .i64 1, .string zt, .int .i64 t.num, .int .i64 (t.pos:Int)]:=by rw [<-hW2];exact aj.new _ _ _
 obtain ⟨k,e1,e2,e3,e4⟩:=hr2.next;have HG:=ah hg2;have HN:=ah e4;have HW2:=ah hW2
 have d0:W2.cell? ⟨w1.heap.size,0,none⟩=some (.int .i64 1):=hk2.cell 0
 have d1:W2.cell? ⟨w1.heap.size,1,none⟩=some (.string zt):=hk2.cell 1
 have hki:(k:Int)<1073741824:=by omega
 have hbw:b≠w1.heap.size:=by have:=HR.out.lt;have:=hb.size;omega
 have d1':(W2.setCell ⟨b,1,none⟩ (.int .i64 ((k:Int)+1))).cell? ⟨w1.heap.size,1,none⟩=some (.string zt):=(hk2.far (p:=⟨b,1,none⟩) (fun e=>hbw e.symm) _).cell 1
 clear hW2 hr2 hg2 hk2 e4 e3 hb
 go_upto_region 2 with fail
 rw [HW2.out];go_wp2_with fail;refine (kS _ _).mono ?_;rintro e w3 ⟨rfl,rfl⟩;go_wp2;go_ret
 exact ⟨rfl,HN.out,Fh HG.out (.inl rfl) _⟩
theorem Dz {q0:Nat×Nat} {b:Nat} {l:List Lex.Tok} {w:World} (h:RS q0 b l w) (hx:Cy.jg l=none):
  Calls Tryz.prog 145 #[.pointer (some ⟨b,0,none⟩)] w fun e w'=>e= .panicked zO/\w.grownBy w' (some b):=by
 have HP:=ah (FK b l w h);obtain ⟨t,ht⟩: ∃t,l.headD pz=t:=⟨_,rfl⟩
 have hk:t.kind≠1:=by
  cases l with
  | nil=>rw [<-ht];simp [pz]
  | cons u r=>
   rw [Cy.jg] at hx
   split at hx
   ·cases hx
   rename_i hn;rw [alq] at ht;rw [<-ht];exact hn
 rw [ht] at HP;unfold zQ at HP
 obtain ⟨zt,aO⟩: ∃zt:ByteArray,(⟨t.text.toArray⟩:ByteArray)=zt:=⟨_,rfl⟩;rw [aO] at HP
 have t1:((t.kind:Int) == 1)=false:=ab3.2 (by omega)
 clear h aO hk hx ht;go_enter Tryz.func145,Tryz.ntmps145;go_wp2_with fail
 refine HP.out.mono ?_;rintro e w1 ⟨rfl,hb⟩;have HB:=ah hb;clear hb;go_wp2_with fail
 refine (lH _ _).mono ?_;rintro e w3 ⟨rfl,rfl⟩
 exact ⟨rfl,rfl,iT (HB.out.alloc HB.out.size _) _⟩
theorem DC {q0:Nat×Nat} {b:Nat} {t:Lex.Tok} {l:List Lex.Tok} {w w1:World} {K:Int} {zt:ByteArray} (h:RS q0 b l w) (hb:Below w.heap.size w w1) (hl:l.headD pz=t):
  ∃W2 k,w1.alloc (.cells #[.int .i64 K, .string zt, .int .i64 t.num, .int .i64 (t.pos:Int)] 138)=W2/\W2.cell? ⟨b,1,none⟩=some (.int .i64 (k:Nat))/\W2.frozen? ⟨b,1,none⟩=false/\(k:Int)<1073741824/\
   Hid ((∀r,l=t :: r->RS q0 b r (W2.setCell ⟨b,1,none⟩ (.int .i64 ((k:Int)+1))))/\w.grownBy (W2.setCell ⟨b,1,none⟩ (.int .i64 ((k:Int)+1))) (some b))/\
   (W2.setCell ⟨b,1,none⟩ (.int .i64 ((k:Int)+1))).cell? ⟨w1.heap.size,0,none⟩=some (.int .i64 K)/\(W2.setCell ⟨b,1,none⟩ (.int .i64 ((k:Int)+1))).cell? ⟨w1.heap.size,1,none⟩=some (.string zt)/\(W2.setCell ⟨b,1,none⟩ (.int .i64 ((k:Int)+1))).cell? ⟨w1.heap.size,2,none⟩=some (.int .i64 t.num):=by
 have hk2:=aj.new w1 138 #[.int .i64 K, .string zt, .int .i64 t.num, .int .i64 (t.pos:Int)]
 have hr2:=h.step hb (.cells #[.int .i64 K, .string zt, .int .i64 t.num, .int .i64 (t.pos:Int)] 138)
 obtain ⟨k,e1,e2,e3⟩:=hr2.raw;have hbw:b≠w1.heap.size:=by have:=h.lt;have:=hb.size;omega
 have hk3:=hk2.far (p:=⟨b,1,none⟩) (fun e=>hbw e.symm) (.int .i64 ((k:Int)+1))
 refine ⟨_,k,rfl,e1,e2,by omega,ah ⟨fun r hr=> ?_,Fh (iT (hb.alloc hb.size _) _) (.inl rfl) _⟩,hk3.cell 0,hk3.cell 1,hk3.cell 2⟩
 subst hr;obtain ⟨k',c1,-,-,e4⟩:=hr2.next;rw [e1] at c1
 have:(k:Int)=(k':Int):=by injection c1 with c1;injection c1
 rw [this];exact e4
theorem ZX {q0:Nat×Nat} {b:Nat} {k n:Int} {x:List UInt8} {l r:List Lex.Tok} {w:World} (h:RS q0 b l w) (hx:Cy.nK l=some ((k,n,x),r)):
  Calls Tryz.prog 255 #[.pointer (some ⟨b,0,none⟩)] w fun e w'=>e= .returned (.tuple #[.int .i64 k, .int .i64 n, .string ⟨x.toArray⟩])/\RS q0 b r w'/\w.grownBy w' (some b):=by
 cases l with
 | nil=>simp [Cy.nK] at hx
 | cons t l'=>
 rw [Cy.nK] at hx;have HP:=ah (FK b (t :: l') w h);rw [alq] at HP;unfold zQ at HP
 have HR:=ah h;obtain ⟨zt,aO⟩: ∃zt:ByteArray,(⟨t.text.toArray⟩:ByteArray)=zt:=⟨_,rfl⟩
 have kC:zt.data.toList=t.text:=by rw [<-aO]
 obtain ⟨K,hK⟩: ∃K:Int,(t.kind:Int)=K:=⟨_,rfl⟩;rw [aO,hK] at HP;have hu:=ug;clear h
 by_cases h1:t.kind=1
 ·rw [ab7 h1] at hx
  obtain rfl:K=1:=by omega
  have ht:(zt.toList == [116,114,117,101])=(t.text == ak.TRUE):=by rw [Lib.toList_data,kC];rfl
  have hf:(zt.toList == [102,97,108,115,101])=(t.text == ak.FALSE):=by rw [Lib.toList_data,kC];rfl
  by_cases e1:t.text=ak.TRUE
  ·rw [ab7 e1] at hx
   cases hx;rw [show (t.text == ak.TRUE)=true from adp.2 e1] at ht
   clear hf e1 h1 kC aO hK;go_enter Tryz.func255,Tryz.ntmps255;go_wp2_with fail
   refine HP.out.mono ?_;rintro e w1 ⟨rfl,hb⟩
   obtain ⟨W2,k2,hW2,c1,f1,hki,kD,d0,d1,d2⟩:=DC (t:=t) (K:=1) (zt:=zt) HR.out hb rfl
   have HW2:=ah hW2;clear hW2 hb
   go_upto_region 2 with fail
   rw [HW2.out];go_wp2_with fail;refine (kS _ _).mono ?_;rintro e w3 ⟨rfl,rfl⟩;go_wp2
   go_ret3
   exact ⟨rfl,kD.out.1 _ rfl,kD.out.2⟩
  rw [ab6 e1] at hx
  split at hx
  case isFalse=>cases hx
  case isTrue e2=>
  cases hx;rw [show (t.text == ak.TRUE)=false from ab3.2 e1] at ht
  rw [show (t.text == ak.FALSE)=true from adp.2 e2] at hf
  clear e1 e2 h1 kC aO hK;go_enter Tryz.func255,Tryz.ntmps255;go_wp2_with fail
  refine HP.out.mono ?_;rintro e w1 ⟨rfl,hb⟩
  obtain ⟨W2,k2,hW2,c1,f1,hki,kD,d0,d1,d2⟩:=DC (t:=t) (K:=1) (zt:=zt) HR.out hb rfl
  have HW2:=ah hW2;clear hW2 hb
  go_upto_region 2 with fail
  rw [HW2.out];go_wp2_with fail;refine (kS _ _).mono ?_;rintro e w3 ⟨rfl,rfl⟩;go_wp2
  go_ret3
  exact ⟨rfl,kD.out.1 _ rfl,kD.out.2⟩
 rw [ab6 h1] at hx;have t1:(K == 1)=false:=ab3.2 (by omega)
 by_cases h2:t.kind=2
 ·rw [ab7 h2] at hx
  cases hx;obtain rfl:K=2:=by omega
  clear h1 h2 kC aO hK t1;go_enter Tryz.func255,Tryz.ntmps255;go_wp2_with fail
  refine HP.out.mono ?_;rintro e w1 ⟨rfl,hb⟩
  obtain ⟨W2,k2,hW2,c1,f1,hki,kD,d0,d1,d2⟩:=DC (t:=t) (K:=2) (zt:=zt) HR.out hb rfl
  have HW2:=ah hW2;clear hW2 hb
  go_upto_region 2 with fail
  rw [HW2.out];go_wp2_with fail
  go_quiet (fail)
  go_wp2
  go_ret3
  exact ⟨rfl,(kD.out.1 _ rfl).kept (below_drewN (Below.refl _ _) nq),vG kD.out.2 nq⟩
 rw [ab6 h2] at hx;have t2:(K == 2)=false:=ab3.2 (by omega)
 by_cases h3:t.kind=3
 ·rw [ab7 h3] at hx
  cases hx;obtain rfl:K=3:=by omega
  clear h1 h2 h3 kC aO hK t1 t2;go_enter Tryz.func255,Tryz.ntmps255;go_wp2_with fail
  refine HP.out.mono ?_;rintro e w1 ⟨rfl,hb⟩
  obtain ⟨W2,k2,hW2,c1,f1,hki,kD,d0,d1,d2⟩:=DC (t:=t) (K:=3) (zt:=zt) HR.out hb rfl
  have HW2:=ah hW2;clear hW2 hb
  go_upto_region 2 with fail
  rw [HW2.out];go_wp2_with fail
  go_quiet (fail)
  go_wp2
  go_ret3
  exact ⟨rfl,(kD.out.1 _ rfl).kept (below_drewN (Below.refl _ _) nq),vG kD.out.2 nq⟩
 rw [ab6 h3] at hx
 split at hx
 case isFalse=>cases hx
 case isTrue h4=>
 cases hx;obtain rfl:K=4:=by omega
 have HZ:=ah aO;clear h1 h2 h3 h4 kC aO hK t1 t2;go_enter Tryz.func255,Tryz.ntmps255
 go_wp2_with fail;refine HP.out.mono ?_;rintro e w1 ⟨rfl,hb⟩
 obtain ⟨W2,k2,hW2,c1,f1,hki,kD,d0,d1,d2⟩:=DC (t:=t) (K:=4) (zt:=zt) HR.out hb rfl
 have HW2:=ah hW2;clear hW2 hb
 go_upto_region 2 with fail
 rw [HW2.out];go_wp2_with fail;refine (kS _ _).mono ?_;rintro e w3 ⟨rfl,rfl⟩
 go_wp2_with fail
 go_quiet (fail)
 go_wp2
 go_ret3
 exact ⟨by rw [HZ.out];rfl,(kD.out.1 _ rfl).kept (below_drewN (Below.refl _ _) nq),vG kD.out.2 nq⟩
theorem ZY {q0:Nat×Nat} {b:Nat} {l:List Lex.Tok} {w:World} (h:RS q0 b l w) (hx:Cy.nK l=none):
  Calls Tryz.prog 255 #[.pointer (some ⟨b,0,none⟩)] w fun e w'=>e= .panicked zO/\w.grownBy w' (some b):=by
 have HP:=ah (FK b l w h);obtain ⟨t,hlt⟩: ∃t,l.headD pz=t:=⟨_,rfl⟩;have HR:=ah h
 have hc:(t.kind=1/\t.text≠ak.TRUE/\t.text≠ak.FALSE)\/(t.kind≠1/\t.kind≠2/\t.kind≠3/\t.kind≠4):=by
  cases l with
  | nil=>rw [<-hlt];right;simp [pz]
  | cons u r=>
   rw [alq] at hlt;subst hlt;rw [Cy.nK] at hx
   repeat' split at hx
   all_goals first |(cases hx;done) |(left;exact ⟨by assumption,by assumption,by assumption⟩) |(right;exact ⟨by assumption,by assumption,by assumption,by assumption⟩)
 rw [hlt] at HP;unfold zQ at HP
 obtain ⟨zt,aO⟩: ∃zt:ByteArray,(⟨t.text.toArray⟩:ByteArray)=zt:=⟨_,rfl⟩
 have kC:zt.data.toList=t.text:=by rw [<-aO]
 obtain ⟨K,hK⟩: ∃K:Int,(t.kind:Int)=K:=⟨_,rfl⟩;rw [aO,hK] at HP;have hu:=ug
 have aB:=ah hlt;clear h hx hlt
 rcases hc with ⟨h1,e1,e2⟩ |⟨h1,h2,h3,h4⟩
 ·obtain rfl:K=1:=by omega
  have ht:(zt.toList == [116,114,117,101])=false:=ab3.2 (by rw [Lib.toList_data,kC];exact e1)
  have hf:(zt.toList == [102,97,108,115,101])=false:=ab3.2 (by rw [Lib.toList_data,kC];exact e2)
  clear h1 e1 e2 aO kC hK;go_enter Tryz.func255,Tryz.ntmps255;go_wp2_with fail
  refine HP.out.mono ?_;rintro e w1 ⟨rfl,hb⟩
  obtain ⟨W2,k2,hW2,c1,f1,hki,kD,d0,d1,d2⟩:=DC (t:=t) (K:=1) (zt:=zt) HR.out hb aB.out
  have HW2:=ah hW2;clear hW2 hb
  go_upto_region 2 with fail
  rw [HW2.out];go_wp2_with fail;refine (lH _ _).mono ?_;rintro e w3 ⟨rfl,rfl⟩
  exact ⟨rfl,rfl,kD.out.2⟩
 have t1:(K == 1)=false:=ab3.2 (by omega)
 have t2:(K == 2)=false:=ab3.2 (by omega)
 have t3:(K == 3)=false:=ab3.2 (by omega)
 have t4:(K == 4)=false:=ab3.2 (by omega)
 clear h1 h2 h3 h4 aO kC hK;go_enter Tryz.func255,Tryz.ntmps255;go_wp2_with fail
 refine HP.out.mono ?_;rintro e w1 ⟨rfl,hb⟩
 obtain ⟨W2,k2,hW2,c1,f1,hki,kD,d0,d1,d2⟩:=DC (t:=t) (K:=K) (zt:=zt) HR.out hb aB.out
 have HW2:=ah hW2;clear hW2 hb
 go_upto_region 2 with fail
 rw [HW2.out];go_wp2_with fail;refine (lH _ _).mono ?_;rintro e w3 ⟨rfl,rfl⟩
 exact ⟨rfl,rfl,kD.out.2⟩
end Go.Proofs.YtoofbflplhbpbaaGreatDoor
