/- Contracts and plain laws,part 13. -/
import Derived.Test.YtkdakckjafomhaaGreatDoorUW12
import Derived.Test.YtkdakckjafomhaaGreatDoorCards
import Derived.Test.YtkdakckjafomhaaGreatDoorTie
import Derived.ProofKit
import Derived.OpenShut
import Derived.Deep.DeepHandedRow
import Derived.Deep.DeepWitnessRowRef
import Derived.Lib.LaidIn
import Derived.Lib.LaidTab
import Derived.Stop.LaidErr
import Derived.ChangeSame
import Derived.ChangeStays
import Derived.ChangeBook
import Derived.ChangeMaps5
set_option maxHeartbeats 64000000
set_option maxRecDepth 1000000
set_option linter.all false
namespace Go.Proofs.YtkdakckjafomhaaGreatDoor
open Go.RowKit
theorem O8 {fn:Func} {R:Ending->World->Prop} {tmps:Array Value} {W:World} {p q:Tmp} {b:Nat} {v0 v1 v2 v3 v4 n:Value} (hfn:fn.results= #[.cell p 37,.tmp q])
  (ht:tmps.getD p undef=.pointer (some ⟨b,0,none⟩)) (hq:tmps.getD q undef=n) (hB:au W b 37 #[v0,v1,v2,v3,v4]) (hR:R (.returned (.tuple #[.agg #[v0,v1,v2,v3,v4],n])) W):
  bodyPost Tryz.prog fn R .ret {tmps:=tmps,defers:=[]} W:=by
 have c0:=hB.cell 0;have c1:=hB.cell 1;have c2:=hB.cell 2;have c3:=hB.cell 3
 have c4:=hB.cell 4;simp at c0 c1 c2 c3 c4
 refine bodyPost_ret (v:=.tuple #[.agg #[v0,v1,v2,v3,v4],n]) ?_ rfl hR;simp at ht hq
 simp[results,hfn,go_sem,ht,hq,c0,c1,c2,c3,c4]
def Ik (R:ak.V×Nat) (w:World) (e:Ending) (w':World):Prop:=
 ∃u,e=.returned (.tuple #[u,.int .i64 (R.2:Nat)])/\mP w' w.heap.size u R.1/\Below w.heap.size w w'
theorem aik {k:Int} {m:List Int}:(m.length<=(m.flatMap (ak.iZ k)).length):=by
 induction m with
 |nil=>simp
 |cons a m ih=>
  have:=ak.YU k a;rw[ae2,adf,adQ];omega
theorem ail {m:List (List UInt8)}:m.length<=(m.flatMap ak.textE).length/\ ∀t∈m,t.length<=(m.flatMap ak.textE).length:=by
 induction m with
 |nil=>simp
 |cons a m ih=>
  have h1: ∀t:List UInt8,t.length<=(ak.iw t).length:=by
   intro t
   induction t with
   |nil=>simp
   |cons c t ih=>
    unfold ak.iw
    split
    ·simp only[adQ];omega
    simp only[adQ];omega
  have h2:(ak.textE a).length=(ak.iw a).length+1:=by unfold ak.textE;simp
  have h3:=h1 a;rw[ae2,adf,adQ];refine⟨by omega, ?_⟩
  intro t ht
  rcases aeY.1 ht with rfl|ht
  ·omega
  have:=ih.2 t ht;omega
theorem ZN {k:Int} {r:List UInt8} (h1:1<=k) (h8:k<=8) (hr:r.length<=1073741823) (h0:(ak.iL k r).2=0):IX (ak.iL k r).1:=by
 unfold ak.iL at h0⊢;have hk:ak.In64 k:=by unfold ak.In64;omega
 have hz:ak.In64 0:=by unfold ak.In64;omega
 by_cases h4:4<k
 ·rw[adk h4]at h0⊢
  by_cases e8:k=8
  ·rw[adk e8]at h0⊢
   simp only at h0
   obtain⟨m,e1,e2⟩:=ak.Tc (r.length+1) r [] (ak.lK (r.length+1) r []).1 (by omega) (anG rfl h0)
   rw[aex]at e1;have:=ail (m:=m);rw[<-e2]at this
   exact⟨hk,hz,by simp,by simp,by simp,by simp only;rw[e1];omega,by simp only;rw[e1];intro t ht;have:=this.2 t ht;omega⟩
  rw[ade e8]at h0⊢;simp only at h0
  obtain⟨m,e1,e2,e3⟩:=ak.S9 (by omega) (by omega) (r.length+1) r [] (ak.kQ (k - 4) (r.length+1) r []).1 (by omega) (anG rfl h0)
  rw[aex]at e1;have:=aik (m:=m) (k:=k - 4);rw[<-e2]at this
  exact⟨hk,hz,by simp only;rw[e1];exact e3,by simp,by simp only;rw[e1];omega,by simp,by simp⟩
 rw[ade h4]at h0⊢;by_cases e4:k=4
 ·rw[adk e4]
  exact⟨by subst e4;exact hk,hz,by simp,by simp only;omega,by simp,by simp,by simp⟩
 rw[ade e4]at h0⊢;simp only at h0
 have:=(ak.SV h1 (by omega) (show ak.fZ k r=((ak.fZ k r).1,0) from anG rfl h0)).2
 exact⟨hk,this,by simp,by simp,by simp,by simp,by simp⟩
theorem ain {s r:List UInt8} {k:Int} (h:ak.dK s=some (k,r)):r.length<=s.length:=by
 obtain⟨e,-,-⟩:=ak.JA h;rw[e];simp;omega
theorem ZO (W:World) (B:Nat):mP W B (.agg #[.int .i64 0,.int .i64 0,.string ⟨#[]⟩,.slice none 0 0,.slice none 0 0]) ak.V0:=
 ⟨_,_,rfl,World.ownsRow_nil _ _ _ _,World.ownsRow_nil _ _ _ _⟩
theorem aio (s:ByteArray) (w:World) (hs:s.size<=1073741823) (hL:Laid w):
  Calls Tryz.prog 77 #[.string s] w (Ik (ak.parse s.data.toList) w):=by
 obtain⟨R,hR⟩:=aj (ak.parse s.data.toList);rw[hR];unfold ak.parse at hR
 obtain⟨W1,hW1⟩:=aj (w.alloc (.cells #[.int .i64 0,.int .i64 0,.string ⟨#[]⟩,.slice none 0 0,.slice none 0 0] 37))
 have hb1:Below w.heap.size w W1:=by rw[<-hW1];exact(Below.refl _ w).alloc (ac4 _) _
 have hz1:W1.heap.size=w.heap.size+1:=by rw[<-hW1];simp
 have k1:au W1 w.heap.size 37 #[.int .i64 0,.int .i64 0,.string ⟨#[]⟩,.slice none 0 0,.slice none 0 0]:=by rw[<-hW1];exact au.new _ _ _
 have HL:=ah (hL.below hb1);have HW1:=ah hW1;have HB1:=ah hb1;have bW:=ah k1
 have hhd:=fun(W:World)=>ah6 s W (by omega)
 clear hW1 hb1 k1 hL;have hu:=lM
 have KU: ∀(W:World) (x:Array Value) (tmps:Array Value) (er:Nat),R=(ak.V0,er)->Below w.heap.size w W->au W w.heap.size 37 #[.int .i64 0,.int .i64 0,.string ⟨#[]⟩,.slice none 0 0,.slice none 0 0]->tmps.getD 2 undef=.pointer (some ⟨w.heap.size,0,none⟩)->tmps.getD 3 undef=.int .i64 er->
   bodyPost Tryz.prog Tryz.f77 (Ik R w) .ret {tmps:=tmps,defers:=[]} (((((W.setCell ⟨w.heap.size,0,none⟩ (.int .i64 0)).setCell ⟨w.heap.size,1,none⟩ (.int .i64 0)).setCell ⟨w.heap.size,2,none⟩ (.string ⟨#[]⟩)).setCell ⟨w.heap.size,3,none⟩ (.slice none 0 0)).setCell ⟨w.heap.size,4,none⟩ (.slice none 0 0)):=by
  intro W x tmps er hr hb hk h2 h3;refine O8 Tryz.results77 h2 h3 (JH hk _ _ _ _ _) ?_
  exact⟨_,by rw[hr],by rw[hr];exact ZO _ _,hb.grown (JI W w.heap.size _ _ _ _ _) hb.size (fun j e=>by cases e;omega)⟩
 have hok: ∀(W:World) (tmps:Array Value) (v:ak.V) (s t:Value),R=(v,0)->Below w.heap.size w W->au W w.heap.size 37 #[.int .i64 0,.int .i64 0,.string ⟨#[]⟩,.slice none 0 0,.slice none 0 0]->mP W w.heap.size (.agg #[.int .i64 v.kind,.int .i64 v.num,.string ⟨v.text.toArray⟩,s,t]) v->tmps.getD 2 undef=.pointer (some ⟨w.heap.size,0,none⟩)->tmps.getD 3 undef=.int .i64 0->
   bodyPost Tryz.prog Tryz.f77 (Ik R w) .ret {tmps:=tmps,defers:=[]} (((((W.setCell ⟨w.heap.size,0,none⟩ (.int .i64 v.kind)).setCell ⟨w.heap.size,1,none⟩ (.int .i64 v.num)).setCell ⟨w.heap.size,2,none⟩ (.string ⟨v.text.toArray⟩)).setCell ⟨w.heap.size,3,none⟩ s).setCell ⟨w.heap.size,4,none⟩ t):=by
  intro W tmps v s t hr hb hk hv h2 h3;obtain⟨s',t',e,o1,o2⟩:=hv.ex
  have es:s=s':=by injection e with e;simp at e;exact e.1
  have et:t=t':=by injection e with e;simp at e;exact e.2
  subst es et
  have hon:=JI W w.heap.size (.int .i64 v.kind) (.int .i64 v.num) (.string ⟨v.text.toArray⟩) s t
  have nt: ∀{e:TypeId},e≠37-> ∀g c t fz,some w.heap.size=some g->W.heap[g]?=some (.cells c t fz)->t≠e:=fun he g c t fz e hc=>by
   cases e;unfold au at hk;rw[hk]at hc;cases hc;exact Ne.symm he
  refine O8 Tryz.results77 h2 h3 (JH hk _ _ _ _ _) ?_
  exact⟨_,by rw[hr];rfl,by rw[hr];exact⟨_,_,rfl,aW o1 hon (nt (by decide)),aW o2 hon (nt (by decide))⟩,hb.grown hon hb.size (fun j e=>by cases e;omega)⟩
 have aV:=ah hok;clear hok;have kX:=ah KU;clear KU;cases hh:ak.dK s.data.toList with
 |none=>
  rw[hh]at hR;have hr:R=(ak.V0,220):=hR.symm;have Qv:=hhd;rw[hh]at Qv
  simp only[JL]at Qv;have HH:=ah Qv;have HRR:=ah hr
  obtain⟨a0,a1,a2,a3,a4,f0,f1,f2,f3,f4⟩:=aU bW.out;clear hhd Qv hr hR hh
  go_enter Tryz.func77,Tryz.ntmps77
  go_upto_region 1 with fail
  rw[HW1.out];clear HW1;go_wp2_with fail;refine(HH.out _).mono ?_;rintro e w1 ⟨rfl,rfl⟩
  go_wp2;exact kX.out _ #[] _ 220 HRR.out HB1.out bW.out rfl rfl
 |some kr=>
  obtain⟨k,r⟩:=kr;obtain⟨-,k1,k8⟩:=ak.JA hh;have hrl:=ain hh;rw[<-Lib.size_eq]at hrl
  rw[hh]at hR hhd;simp only at hR;simp only[JL]at hhd
  obtain⟨z,hz⟩:=aj (⟨r.toArray⟩:ByteArray);have hzl:z.data.toList=r:=by rw[<-hz]
  have hzs:z.size=r.length:=by rw[<-hz];exact gq _
  rw[hz]at hhd;have kC:=ZN k1 k8 (show r.length<=1073741823 by omega)
  obtain⟨W2,hW2⟩:=aj (W1.alloc (.cells #[.int .i64 k,.int .i64 0,.string ⟨#[]⟩,.slice none 0 0,.slice none 0 0] 37))
  have hb2:Below W1.heap.size W1 W2:=by rw[<-hW2];exact(Below.refl _ W1).alloc (ac4 _) _
  have hz2:W2.heap.size=W1.heap.size+1:=by rw[<-hW2];simp
  have c2:au W2 W1.heap.size 37 #[.int .i64 k,.int .i64 0,.string ⟨#[]⟩,.slice none 0 0,.slice none 0 0]:=by rw[<-hW2];exact au.new _ _ _
  have HP2:Hid (oI W1.heap.size W1 k (.slice none 0 0) (.slice none 0 0) [] [] W2):=⟨c2,World.ownsRow_nil _ _ _ _,World.ownsRow_nil _ _ _ _,hb2,by omega⟩
  have HB2:=ah (HB1.trans (hb2.mono (by omega)))
  have aY:=ah (bW.below hb2 (by omega))
  have HC2:=ah c2;have HH:=ah hhd;have HW2:=ah hW2;have HR:=ah hR;have vJ:=ah kC
  have HZ:=ah hz;have Qw:=ah (⟨hz1,hz2⟩:_/\_);clear hhd hR hh hz kC hW2 hb2 c2 hz1 hz2
  go_enter Tryz.func77,Tryz.ntmps77
  go_upto_region 1 with fail
  rw[HW1.out];clear HW1;go_wp2_with fail;refine(HH.out _).mono ?_;rintro e w1 ⟨rfl,rfl⟩
  go_upto_region 5 with fail
  rw[HW2.out];clear HW2;by_cases h4:4<k
  ·have d4:decide (4<k)=true:=adb h4
   obtain⟨ns,ts,er,hv,hpl⟩: ∃(ns:List Int) (ts:List (List UInt8)) (er:Nat),ak.iL k r=(⟨k,0,[],ns,ts⟩,er)/\Calls Tryz.prog 121 #[.pointer (some ⟨W1.heap.size,0,none⟩),.string z] W2 (TM W1.heap.size W1 k ns ts er):=by
    have qh:z.size+1=r.length+1:=by omega
    by_cases h8:k=8
    ·subst h8
     refine⟨[],_,_, ?_,aij z W1 W2 (by omega) HP2.out⟩
     unfold ak.iL;rw[adk h4,adk rfl,hzl,qh]
    refine⟨_,[],_, ?_,aii k z W1 W2 (by omega) (by omega) (by omega) HL.out HP2.out⟩
    unfold ak.iL;rw[adk h4,ade h8,hzl,qh]
   have iH:=HR.out;rw[hv]at iH;simp only at iH;have hvk:=vJ.out;rw[hv]at hvk
   simp only at hvk;have AU:=ah hvk;have KW:=ah iH;have xM:=ah hpl;have hz1:=Qw.out.1
   have hz2:=Qw.out.2;have Qx:w.heap.size<=W1.heap.size:=by omega
   have adz:w.heap.size<W1.heap.size:=by omega
   have VB:w.heap.size<=W1.heap.size+1:=by omega
   clear iH hvk hpl hv h4 HR vJ hz1 hz2;obtain⟨b0,b1,b2,b3,b4,g0,g1,g2,g3,g4⟩:=aU HC2.out
   go_wp2_with fail;refine xM.mono ?_;rintro e w3 ⟨rfl,hb3,apz,s,t,hc3,himp⟩
   have HB3:=ah (HB1.trans (hb3.mono Qx));have dB:=ah (bW.below hb3 adz);have jK:=ah hc3
   have am9:=ah himp;clear hb3 hc3 himp b0 b1 b2 b3 b4 g0 g1 g2 g3 g4;by_cases he:er=0
   ·subst he
    have hpr:=am9.out rfl;obtain⟨As,cs,rfl⟩:=aF hpr.own;obtain⟨At,ct,rfl⟩:=aF hpr.owt
    have xO:mP w3 w.heap.size (Value.agg #[.int .i64 k,.int .i64 0,.string ⟨#[]⟩,.slice As ns.length cs,.slice At ts.length ct]) ⟨k,0,[],ns,ts⟩:=⟨_,_,rfl,iy hpr.own VB,iy hpr.owt VB⟩
    have sS:=ah xO;have DN:=ah (xO.IY (AU.out rfl));have hrb:=KW.out
    rw[ade (by simp)]at hrb
    have iI:=ah hrb;clear hpr xO hrb
    have iV:=check_any w3.heap.size (Value.agg #[.int .i64 k,.int .i64 0,.string ⟨#[]⟩,.slice As ns.length cs,.slice At ts.length ct]) ⟨k,0,[],ns,ts⟩ w3 DN.out (ac4 _)
    have hrr:=iI.out;obtain⟨cv,hcv⟩:=aj (ak.check ⟨k,0,[],ns,ts⟩);rw[hcv]at iV hrr
    have bf:=ah iV;obtain⟨a0,a1,a2,a3,a4,f0,f1,f2,f3,f4⟩:=aU dB.out
    obtain⟨b0,b1,b2,b3,b4,g0,g1,g2,g3,g4⟩:=aU jK.out;clear iV hcv;go_wp2_with fail
    refine bf.mono ?_;rintro e wz ⟨rfl,hbz⟩;have oW:=ah (HB3.trans (hbz.mono HB3.size))
    have jL:=ah (dB.below hbz dB.lt);have jM:=ah (jK.below hbz jK.lt)
    have xP:=ah (sS.below hbz)
    clear hbz a0 a1 a2 a3 a4 f0 f1 f2 f3 f4 b0 b1 b2 b3 b4 g0 g1 g2 g3 g4
    obtain⟨a0,a1,a2,a3,a4,f0,f1,f2,f3,f4⟩:=aU jL.out;by_cases hc0:cv=0
    ·subst hc0
     rw[ade (by simp)]at hrr
     have HRR:=ah hrr.symm;have j0:=(jM.cell 0);have j1:=(jM.cell 1);have j2:=(jM.cell 2)
     have j3:=(jM.cell 3);have j4:=(jM.cell 4);simp at j0 j1 j2 j3 j4;clear hrr;go_wp2
     exact aV.out _ _ ⟨k,0,[],ns,ts⟩ (.slice As ns.length cs) (.slice At ts.length ct) HRR.out oW.out jL.out xP.out rfl rfl
    rw[adk hc0]at hrr;have HRR:=ah hrr.symm
    have t9:((cv:Int) !=0)=true:=by rw[adY];omega
    have t8:((cv:Int) == 0)=false:=by rw[adh];omega
    clear hrr hc0;go_wp2;exact kX.out _ #[] _ cv HRR.out oW.out jL.out rfl rfl
   have hrb:=KW.out;rw[adk he]at hrb;have HRR:=ah hrb.symm
   have t9:((er:Int) !=0)=true:=by rw[adY];omega
   have t8:((er:Int) == 0)=false:=by rw[adh];omega
   clear hrb he;obtain⟨a0,a1,a2,a3,a4,f0,f1,f2,f3,f4⟩:=aU dB.out;go_wp2
   exact kX.out _ #[] _ er HRR.out HB3.out dB.out rfl rfl
  have d4:decide (4<k)=false:=ac5 h4;have d4i:k<=4:=by omega
  have hz1:=Qw.out.1;have hz2:=Qw.out.2;have Qx:w.heap.size<=W1.heap.size:=by omega
  have adz:w.heap.size<W1.heap.size:=by omega
  have VB:w.heap.size<=W1.heap.size+1:=by omega
  have anb:W1.heap.size<W2.heap.size:=by omega
  have adA:w.heap.size<W2.heap.size:=by omega
  have hne:w.heap.size≠(⟨W1.heap.size,2,none⟩:Addr).block:=by show w.heap.size≠W1.heap.size;omega
  have hne1:w.heap.size≠(⟨W1.heap.size,1,none⟩:Addr).block:=by show w.heap.size≠W1.heap.size;omega
  clear hz1 hz2;have iH:=HR.out;have hvk:=vJ.out
  obtain⟨b0,b1,b2,b3,b4,g0,g1,g2,g3,g4⟩:=aU HC2.out;by_cases iU:k=4
  ·subst iU
   have hv:ak.iL 4 r=(⟨4,0,r,[],[]⟩,0):=by unfold ak.iL;rw[ade (by omega),adk rfl]
   rw[hv]at iH hvk;simp only at iH hvk;rw[ade (by simp)]at iH
   have iI:=ah iH;obtain rfl:=HZ.out
   obtain⟨w3,hW3⟩:=aj (W2.setCell ⟨W1.heap.size,2,none⟩ (.string ⟨r.toArray⟩))
   have hc3:au w3 W1.heap.size 37 #[.int .i64 4,.int .i64 0,.string ⟨r.toArray⟩,.slice none 0 0,.slice none 0 0]:=by rw[<-hW3];exact au.cast (HC2.bP 2 _) (by simp)
   have hb3:Below w.heap.size w w3:=by rw[<-hW3];exact HB2.setCell (p:=⟨W1.heap.size,2,none⟩) Qx _
   have hk3:au w3 w.heap.size 37 #[.int .i64 0,.int .i64 0,.string ⟨#[]⟩,.slice none 0 0,.slice none 0 0]:=by rw[<-hW3];exact aY.far hne _
   have xO:mP w3 w.heap.size (Value.agg #[.int .i64 4,.int .i64 0,.string ⟨r.toArray⟩,.slice none 0 0,.slice none 0 0]) ⟨4,0,r,[],[]⟩:=⟨_,_,rfl,World.ownsRow_nil _ _ _ _,World.ownsRow_nil _ _ _ _⟩
   have sS:=ah xO;have DN:=ah (xO.IY (hvk trivial));have HB3:=ah hb3;have dB:=ah hk3
   have jK:=ah hc3;have HW3:=ah hW3;clear hW3 hc3 hb3 hk3 xO iH hvk hv h4 HR vJ hne hne1
   go_upto_region 11 with fail
   rw[HW3.out];clear HW3 b0 b1 b2 b3 b4 g0 g1 g2 g3 g4
   have iV:=check_any w3.heap.size (Value.agg #[.int .i64 4,.int .i64 0,.string ⟨r.toArray⟩,.slice none 0 0,.slice none 0 0]) ⟨4,0,r,[],[]⟩ w3 DN.out (ac4 _)
   have hrr:=iI.out;obtain⟨cv,hcv⟩:=aj (ak.check ⟨4,0,r,[],[]⟩);rw[hcv]at iV hrr
   have bf:=ah iV;obtain⟨a0,a1,a2,a3,a4,f0,f1,f2,f3,f4⟩:=aU dB.out
   obtain⟨b0,b1,b2,b3,b4,g0,g1,g2,g3,g4⟩:=aU jK.out;clear iV hcv;go_wp2_with fail
   refine bf.mono ?_;rintro e wz ⟨rfl,hbz⟩;have oW:=ah (HB3.trans (hbz.mono HB3.size))
   have jL:=ah (dB.below hbz dB.lt);have jM:=ah (jK.below hbz jK.lt)
   have xP:=ah (sS.below hbz)
   clear hbz a0 a1 a2 a3 a4 f0 f1 f2 f3 f4 b0 b1 b2 b3 b4 g0 g1 g2 g3 g4
   obtain⟨a0,a1,a2,a3,a4,f0,f1,f2,f3,f4⟩:=aU jL.out;by_cases hc0:cv=0
   ·subst hc0
    rw[ade (by simp)]at hrr
    have HRR:=ah hrr.symm;have j0:=(jM.cell 0);have j1:=(jM.cell 1);have j2:=(jM.cell 2)
    have j3:=(jM.cell 3);have j4:=(jM.cell 4);simp at j0 j1 j2 j3 j4;clear hrr;go_wp2
    exact aV.out _ _ ⟨4,0,r,[],[]⟩ (.slice none 0 0) (.slice none 0 0) HRR.out oW.out jL.out xP.out rfl rfl
   rw[adk hc0]at hrr;have HRR:=ah hrr.symm
   have t9:((cv:Int) !=0)=true:=by rw[adY];omega
   have t8:((cv:Int) == 0)=false:=by rw[adh];omega
   clear hrr hc0;go_wp2;exact kX.out _ #[] _ cv HRR.out oW.out jL.out rfl rfl
  have t44:(k == 4)=false:=adh.2 iU
  have hpn:=ZC k z W2 k1 (by omega) (by omega) (HL.below HP2.bel)
  rw[hzl]at hpn;obtain⟨y,er,hN⟩: ∃y er,ak.fZ k r=(y,er):=⟨_,_,rfl⟩
  have hv:ak.iL k r=(⟨k,y,[],[],[]⟩,er):=by unfold ak.iL;rw[ade h4,ade iU,hN]
  rw[hN]at hpn;rw[hv]at iH hvk;simp only at iH hvk;have dY:=ah hpn;have KW:=ah iH
  have AU:=ah hvk;have vK:=ah hne1;clear hpn hN hv iH hvk h4 iU HR vJ hne hne1
  go_wp2_with fail;refine dY.mono ?_;rintro e w9 ⟨rfl,aB⟩;have qP:=ah (HC2.below aB anb)
  have bH:=ah (aY.below aB adA);have bg:=ah (HB2.trans (aB.mono (Nat.le_of_lt adA)))
  clear aB b0 b1 b2 b3 b4 g0 g1 g2 g3 g4;obtain⟨b0,b1,b2,b3,b4,g0,g1,g2,g3,g4⟩:=aU qP.out
  obtain⟨w3,hW3⟩:=aj (w9.setCell ⟨W1.heap.size,1,none⟩ (.int .i64 y))
  have hc3:au w3 W1.heap.size 37 #[.int .i64 k,.int .i64 y,.string ⟨#[]⟩,.slice none 0 0,.slice none 0 0]:=by rw[<-hW3];exact au.cast (qP.bP 1 _) (by simp)
  have hb3:Below w.heap.size w w3:=by rw[<-hW3];exact bg.setCell (p:=⟨W1.heap.size,1,none⟩) Qx _
  have hk3:au w3 w.heap.size 37 #[.int .i64 0,.int .i64 0,.string ⟨#[]⟩,.slice none 0 0,.slice none 0 0]:=by rw[<-hW3];exact bH.far vK.out _
  have HB3:=ah hb3;have dB:=ah hk3;have jK:=ah hc3;have HW3:=ah hW3;clear hW3 hc3 hb3 hk3
  go_upto_region 11 with fail
  rw[HW3.out];clear HW3 b0 b1 b2 b3 b4 g0 g1 g2 g3 g4;by_cases he:er=0
  ·subst he
   have xO:mP w3 w.heap.size (Value.agg #[.int .i64 k,.int .i64 y,.string ⟨#[]⟩,.slice none 0 0,.slice none 0 0]) ⟨k,y,[],[],[]⟩:=⟨_,_,rfl,World.ownsRow_nil _ _ _ _,World.ownsRow_nil _ _ _ _⟩
   have sS:=ah xO;have DN:=ah (xO.IY (AU.out rfl));have hrb:=KW.out
   rw[ade (by simp)]at hrb
   have iI:=ah hrb;clear xO hrb
   have iV:=check_any w3.heap.size (Value.agg #[.int .i64 k,.int .i64 y,.string ⟨#[]⟩,.slice none 0 0,.slice none 0 0]) ⟨k,y,[],[],[]⟩ w3 DN.out (ac4 _)
   have hrr:=iI.out;obtain⟨cv,hcv⟩:=aj (ak.check ⟨k,y,[],[],[]⟩);rw[hcv]at iV hrr
   have bf:=ah iV;obtain⟨a0,a1,a2,a3,a4,f0,f1,f2,f3,f4⟩:=aU dB.out
   obtain⟨b0,b1,b2,b3,b4,g0,g1,g2,g3,g4⟩:=aU jK.out;clear iV hcv;go_wp2_with fail
   refine bf.mono ?_;rintro e wz ⟨rfl,hbz⟩;have oW:=ah (HB3.trans (hbz.mono HB3.size))
   have jL:=ah (dB.below hbz dB.lt);have jM:=ah (jK.below hbz jK.lt)
   have xP:=ah (sS.below hbz)
   clear hbz a0 a1 a2 a3 a4 f0 f1 f2 f3 f4 b0 b1 b2 b3 b4 g0 g1 g2 g3 g4
   obtain⟨a0,a1,a2,a3,a4,f0,f1,f2,f3,f4⟩:=aU jL.out;by_cases hc0:cv=0
   ·subst hc0
    rw[ade (by simp)]at hrr
    have HRR:=ah hrr.symm;have j0:=(jM.cell 0);have j1:=(jM.cell 1);have j2:=(jM.cell 2)
    have j3:=(jM.cell 3);have j4:=(jM.cell 4);simp at j0 j1 j2 j3 j4;clear hrr;go_wp2
    exact aV.out _ _ ⟨k,y,[],[],[]⟩ (.slice none 0 0) (.slice none 0 0) HRR.out oW.out jL.out xP.out rfl rfl
   rw[adk hc0]at hrr;have HRR:=ah hrr.symm
   have t9:((cv:Int) !=0)=true:=by rw[adY];omega
   have t8:((cv:Int) == 0)=false:=by rw[adh];omega
   clear hrr hc0;go_wp2;exact kX.out _ #[] _ cv HRR.out oW.out jL.out rfl rfl
  have hrb:=KW.out;rw[adk he]at hrb;have HRR:=ah hrb.symm
  have t9:((er:Int) !=0)=true:=by rw[adY];omega
  have t8:((er:Int) == 0)=false:=by rw[adh];omega
  clear hrb he;obtain⟨a0,a1,a2,a3,a4,f0,f1,f2,f3,f4⟩:=aU dB.out;go_wp2
  exact kX.out _ #[] _ er HRR.out HB3.out dB.out rfl rfl
end Go.Proofs.YtkdakckjafomhaaGreatDoor
namespace Go.Proofs.YtkdakckjafomhaaGreatDoor
open Go.ChangeShapes Go.WideShapes Go.ChangeAt Go.RowKit
theorem aip:ownKnob Tryz.prog.godebug=none:=by kernel_rfl
theorem aiq:laidOutB Tryz.prog=true:=by kernel_rfl
theorem ZP: "*" ++ "errors.errorString" = "*errors.errorString" :=by decide
theorem ZQ (u:TypeId) (h:Tryz.prog.typeName? 3 u=some "*errors.errorString"):u=294:=
 typeName_ptr_named (nm:= "errors.errorString") (by rw[ZP];kernel_rfl) (by kernel_rfl) (by decide) u (by rw[ZP];exact h)
theorem air:(Rows.laid_math_bits_deBruijn64tab:DataW Unit)=Lib.tabData .u8 (Lib.deBruijn64tab.map fun x:Nat=>(x:Int)):=by kernel_rfl
theorem ais:(Rows.laid_internal_strconv_uint64pow10:DataW Unit)=Lib.tabData .u64 Lib.pow10Tab:=by kernel_rfl
def Il:List (String×DataW Unit):=[("math/bits.deBruijn32tab",Rows.laid_math_bits_deBruijn32tab),("math/bits.deBruijn64tab",Rows.laid_math_bits_deBruijn64tab),("internal/strconv.uint64pow10",Rows.laid_internal_strconv_uint64pow10),("unicode/utf8.acceptRanges",Rows.laid_unicode_utf8_acceptRanges),("strconv.ErrRange",Rows.laid_strconv_ErrRange),("strconv.ErrSyntax",Rows.laid_strconv_ErrSyntax),("unicode/utf8.first",Rows.laid_unicode_utf8_first)]
theorem ait:(Il.filter fun x=>x.2.handleName?.isSome)=[]:=by kernel_rfl
theorem aiu {W:World} (h:laidMetH Tryz.prog Il W) (hS:W.ShapedOpen Tryz.prog):Laid W:=by
 have hL:laidMet Tryz.prog Il W:=by
  unfold laidMetH at h;rw[ait]at h;exact h
 have h1:=hL.tail;have h2:=h1.tail;have h4:=h2.tail.tail;have h5:=h4.tail;rw[air]at h1
 rw[ais]at h2
 have t1:Lib.TabIs Tryz.prog W "math/bits.deBruijn64tab" .u8 (Lib.deBruijn64tab.map fun x:Nat=>(x:Int)):=
  Lib.tabIs_of_head (n:=64) Td (by kernel_rfl) Tryz.underlying292 Tryz.underlying5 (by kernel_rfl) (by kernel_rfl) h1
 have t2:Lib.TabIs Tryz.prog W "internal/strconv.uint64pow10" .u64 Lib.pow10Tab:=
  Lib.tabIs_of_head (n:=20) Y5 (by kernel_rfl) Tryz.underlying284 Tryz.underlying193 (by kernel_rfl) (by kernel_rfl) h2
 obtain⟨a0,s0,hv0,-,-,-⟩:=laid_sentinel (g:=5) h4 Y7 (by kernel_rfl) Tryz.underlying129 ZQ Tryz.underlying294 Tryz.underlying296 rfl rfl Tryz.underlying9 (by kernel_rfl) (by kernel_rfl)
 obtain⟨a1,s1,hv1,-,-,-⟩:=laid_sentinel (g:=4) h5 Y6 (by kernel_rfl) Tryz.underlying129 ZQ Tryz.underlying294 Tryz.underlying296 rfl rfl Tryz.underlying9 (by kernel_rfl) (by kernel_rfl)
 refine⟨t2,⟨_,t1,fun j hj=> ?_⟩,⟨_,_,hv1⟩,⟨_,_,hv0⟩, ?_⟩
 ·have hl:Lib.deBruijn64tab.length=64:=by decide
  have hj':j<Lib.deBruijn64tab.length:=by omega
  simp[List.getD,hj']
 exact Go.Proofs.cell_of_shapedOpen_int (zero:= #[.int .i64 0]) (t:=3) hS (adN (by kernel_rfl)) (by kernel_rfl) rfl (by kernel_rfl) (by kernel_rfl) Tryz.underlying3
section
variable {H:Type} {enc:TypeId×Value->H} {P:Program}
theorem aiv {f:Func} {s:ChangeSpec} {apart fresh handsOn again:Bool} {W W':World} {args:Array Value} {v:Value} {ds gs:List (DataW H)} {before pa pv:List MemPlace}
  (hW:DataW.Whole enc P f.params.toList s.vars apart W args.toList ds gs before)
  (hres: ∀(b:Nat) (sp:Nat->Bool) (hd:Bool),DataW.TrodAll enc P W' b sp hd f.resultTypes.toList (v.resultList f.resultTypes.size) (s.fn H (ds++gs)).results [])
  (hargs: ∀sp:Nat->Bool,(∀p∈before,sp p.block=true)->DataW.TrodAll enc P W' 0 sp true f.params.toList args.toList (s.fn H (ds++gs)).args pa)
  (hvars: ∀sp:Nat->Bool,(∀p∈before,sp p.block=true)->DataW.TrodVars enc P W' sp s.vars (s.fn H (ds++gs)).vars pv)
  (hps:before=pa++pv) (hb:Below W.heap.size W W')
  (hok: ∀(j:Nat) (t:TypeId) (r:Value),f.resultTypes[j]?=some t->(v.resultList f.resultTypes.size)[j]?=some r->Value.okWide P W' .any 0 t r):
  s.post enc P f apart fresh handsOn again W args v W':=by
 have hlt: ∀p∈before,p.block<W.heap.size:=fun p hp=>hW.lt p hp
 have hold: ∀p∈before,(fun b=>decide (b<W.heap.size)) p.block=true:=fun p hp=>by simpa using hlt p hp
 refine⟨ds,gs,before,[],pa,pv,hW,hres _ _ _,hargs _ hold,hvars _ hold,World.keptBut_mono (fun p hp=>⟨hp, ?_⟩) (hb.frame (· ∈before)),fun _=> ?_⟩
 ·rw[hps,aem]at hp
  exact Or.inr hp
 obtain⟨_,_,_,_,_,hz,hn⟩:=hW
 refine⟨hok,_,_,([]++pa)++pv,⟨[]++pa,pv,trodAll_append (hargs _ (fun _ _=>rfl)) (hres _ _ _),hvars _ (fun _ _=>rfl),rfl, ?_, ?_⟩, ?_⟩
 ·intro b off hp
  have hin:MemPlace.cell b off∈before:=by rw[hps];simpa using hp
  rw[hb.frozen (hlt _ hin)];exact hz b off hin
 ·intro ha
  have:=hn ha;rw[hps]at this
  simpa using this
 intro p hp _;rw[hps]
 simpa using hp
theorem ZR {W W':World} (hl:laidOutB P=true) (hb:Below W.heap.size W W') {sp:Nat->Bool}: ∀{ts:List TypeId} {vs:List Value} {ds:List (DataW H)} {ps:List MemPlace},
  (∀t∈ts,P.readableRec t=true/\t<P.types.size)->DataW.TrodAll enc P W 0 (fun _=>true) true ts vs ds ps->(∀p∈ps,sp p.block=true)->(∀p∈ps,p.block<W.heap.size)->
  DataW.TrodAll enc P W' 0 sp true ts vs ds ps
 |[],[],[],_,_,h,_,_=>h
 |t :: ts,v :: vs,d :: ds,ps,ht,⟨p,q,⟨n,h1⟩,h2,e⟩,hs,hlt=>by
  have hp: ∀x∈p,x∈ps:=fun x hx=>by rw[e];exact anB _ hx
  have hq: ∀x∈q,x∈ps:=fun x hx=>by rw[e];exact aom _ hx
  have hh:=ht t (aeY.2 (.inl rfl))
  exact⟨p,q,⟨n,DataW.trod_stays (kids_book hl hh.1) (book_sized hh.1) (fun h=>by cases h) ⟨hh.2,book_self t⟩ h1 (fun x hx=>hb.same (hlt x (hp x hx))) (fun x hx=>hs x (hp x hx))⟩,
   ZR hl hb (fun u hu=>ht u (aeY.2 (.inr hu))) h2 (fun x hx=>hs x (hq x hx)) (fun x hx=>hlt x (hq x hx)),e⟩
end
def numsOf:DataW Unit->List Value
 |.agg ds=>ds.map fun d=>match d with|.lit (.int k i)=> .int k i|_=>undef
 |_=> []
def aiw:Array Value:= #[.int .u8 128,.int .u8 191,.int .u8 160,.int .u8 191,.int .u8 128,.int .u8 159,.int .u8 144,.int .u8 191,.int .u8 128,.int .u8 143,.int .u8 0,.int .u8 0,.int .u8 0,.int .u8 0,.int .u8 0,.int .u8 0,.int .u8 0,.int .u8 0,.int .u8 0,.int .u8 0,.int .u8 0,.int .u8 0,.int .u8 0,.int .u8 0,.int .u8 0,.int .u8 0,.int .u8 0,.int .u8 0,.int .u8 0,.int .u8 0,.int .u8 0,.int .u8 0]
def E8 (cs:Array Value):Obj->Obj
 |.cells _ t frozen=> .cells cs t frozen
 |o=>o
noncomputable abbrev N0:Nat:=(World.settled Tryz.prog default).heap.size
noncomputable def laidWorld (os:Os):World:=
 let N:=(World.settled Tryz.prog os).heap.size
 let w0:=World.holding Tryz.prog os ⟨#[.cells #[.string ⟨#[118,97,108,117,101,32,111,117,116,32,111,102,32,114,97,110,103,101]⟩] 296,.cells #[.string ⟨#[105,110,118,97,108,105,100,32,115,121,110,116,97,120]⟩] 296],#[],[]⟩
 {w0 with heap:=((((((w0.heap.modify 7 (E8 (numsOf Rows.laid_math_bits_deBruijn32tab).toArray)).modify 6 (E8 (numsOf Rows.laid_math_bits_deBruijn64tab).toArray)).modify 3 (E8 (numsOf Rows.laid_internal_strconv_uint64pow10).toArray)).modify 2 (E8 aiw)).modify 1 (E8 (numsOf Go.Pinned.utf8First).toArray)).modify 5 (E8 #[.iface 294 (.pointer (some ⟨N,0,none⟩))])).modify 4 (E8 #[.iface 294 (.pointer (some ⟨N+1,0,none⟩))])}
theorem laid_met (os:Os) (args:Array Value):laidMet Tryz.prog Il ((laidWorld os).forCall (fun _ _=>0) ⟨#[],args,[]⟩).memory:=
 (LaidIn.of_run (l:=Il) [7,6,3,2,5,N0,4,N0+1,1] 8 (by kernel_rfl) (by kernel_rfl) (by kernel_rfl) (by kernel_rfl)).met
end Go.Proofs.YtkdakckjafomhaaGreatDoor
