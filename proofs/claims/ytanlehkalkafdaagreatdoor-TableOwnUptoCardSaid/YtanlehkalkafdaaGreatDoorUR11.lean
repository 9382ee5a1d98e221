/- Contracts and plain laws,part 11. -/
import Derived.Test.YtanlehkalkafdaaGreatDoorUR10
import Derived.Test.YtanlehkalkafdaaGreatDoorCards
import Derived.Test.YtanlehkalkafdaaGreatDoorTie
import Derived.ProofKit
import Derived.OpenShut
import Derived.Deep.DeepHandedRow
import Derived.Deep.DeepWitnessRowRef
import Derived.Lib.LaidIn
import Derived.Lib.LaidTab
import Derived.Stop.LaidErr
import Derived.ChangeSame
import Derived.ChangeStays
import Derived.ChangeBook
import Derived.ChangeMaps5
import Derived.SliceStrings
import Derived.ChangeSlices
set_option maxHeartbeats 64000000
set_option maxRecDepth 1000000
set_option linter.all false
namespace Go.Proofs.YtanlehkalkafdaaGreatDoor
open Go.RowKit
theorem ret_val2 {fn:Func} {R:Ending->World->Prop} {tmps:Array Value} {W:World} {p q:Tmp} {b:Nat} {v0 v1 v2 v3 v4 n:Value} (hfn:fn.results= #[.cell p 51,.tmp q])
  (ht:tmps.getD p undef=.pointer (some ⟨b,0,none⟩)) (hq:tmps.getD q undef=n) (hB:Blk W b 51 #[v0,v1,v2,v3,v4]) (hR:R (.returned (.tuple #[.agg #[v0,v1,v2,v3,v4],n])) W):
  bodyPost Tryz.prog fn R .ret {tmps:=tmps,defers:=[]} W:=by
 have c0:=hB.cell 0;have c1:=hB.cell 1;have c2:=hB.cell 2;have c3:=hB.cell 3
 have c4:=hB.cell 4;simp at c0 c1 c2 c3 c4
 refine bodyPost_ret (v:=.tuple #[.agg #[v0,v1,v2,v3,v4],n]) ?_ rfl hR;simp at ht hq
 simp[results,hfn,go_sem,ht,hq,c0,c1,c2,c3,c4]
def ParRes (R:Cel.V×Nat) (w:World) (e:Ending) (w':World):Prop:=
 ∃u,e=.returned (.tuple #[u,.int .i64 (R.2:Nat)])/\VOwn w' w.heap.size u R.1/\Below w.heap.size w w'
theorem mem_numE {k:Int} {m:List Int}:(m.length<=(m.flatMap (Cel.numE k)).length):=by
 induction m with
 |nil=>simp
 |cons a m ih=>
  have:=Cel.numE_len k a;rw[uK,rP,sS];omega
theorem mem_textE {m:List (List UInt8)}:m.length<=(m.flatMap Cel.textE).length/\ ∀t∈m,t.length<=(m.flatMap Cel.textE).length:=by
 induction m with
 |nil=>simp
 |cons a m ih=>
  have h1: ∀t:List UInt8,t.length<=(Cel.escT t).length:=by
   intro t
   induction t with
   |nil=>simp
   |cons c t ih=>
    unfold Cel.escT
    split
    ·simp only[sS];omega
    simp only[sS];omega
  have h2:(Cel.textE a).length=(Cel.escT a).length+1:=by unfold Cel.textE;simp
  have h3:=h1 a;rw[uK,rP,sS];refine⟨by omega, ?_⟩
  intro t ht
  rcases uD.1 ht with rfl|ht
  ·omega
  have:=ih.2 t ht;omega
theorem bodyP_ok {k:Int} {r:List UInt8} (h1:1<=k) (h8:k<=8) (hr:r.length<=1073741823) (h0:(Cel.bodyP k r).2=0):VOk (Cel.bodyP k r).1:=by
 unfold Cel.bodyP at h0⊢;have hk:Cel.In64 k:=by unfold Cel.In64;omega
 have hz:Cel.In64 0:=by unfold Cel.In64;omega
 by_cases h4:4<k
 ·rw[rY h4]at h0⊢
  by_cases e8:k=8
  ·rw[rY e8]at h0⊢
   simp only at h0
   obtain⟨m,e1,e2⟩:=Cel.textsP_some (r.length+1) r [] (Cel.textsP (r.length+1) r []).1 (by omega) (xW rfl h0)
   rw[tY]at e1;have:=mem_textE (m:=m);rw[<-e2]at this
   exact⟨hk,hz,by simp,by simp,by simp,by simp only;rw[e1];omega,by simp only;rw[e1];intro t ht;have:=this.2 t ht;omega⟩
  rw[rU e8]at h0⊢;simp only at h0
  obtain⟨m,e1,e2,e3⟩:=Cel.numsP_some (by omega) (by omega) (r.length+1) r [] (Cel.numsP (k - 4) (r.length+1) r []).1 (by omega) (xW rfl h0)
  rw[tY]at e1;have:=mem_numE (m:=m) (k:=k - 4);rw[<-e2]at this
  exact⟨hk,hz,by simp only;rw[e1];exact e3,by simp,by simp only;rw[e1];omega,by simp,by simp⟩
 rw[rU h4]at h0⊢;by_cases e4:k=4
 ·rw[rY e4]
  exact⟨by subst e4;exact hk,hz,by simp,by simp only;omega,by simp,by simp,by simp⟩
 rw[rU e4]at h0⊢;simp only at h0
 have:=(Cel.numS_numP h1 (by omega) (show Cel.numP k r=((Cel.numP k r).1,0) from xW rfl h0)).2
 exact⟨hk,this,by simp,by simp,by simp,by simp,by simp⟩
theorem headP_len {s r:List UInt8} {k:Int} (h:Cel.headP s=some (k,r)):r.length<=s.length:=by
 obtain⟨e,-,-⟩:=Cel.headP_some h;rw[e];simp;omega
theorem vown_zero (W:World) (B:Nat):VOwn W B (.agg #[.int .i64 0,.int .i64 0,.string ⟨#[]⟩,.slice none 0 0,.slice none 0 0]) Cel.V0:=
 ⟨_,_,rfl,World.ownsRow_nil _ _ _ _,World.ownsRow_nil _ _ _ _⟩
theorem celParse_any (s:ByteArray) (w:World) (hs:s.size<=1073741823) (hL:Laid w):
  Calls Tryz.prog 117 #[.string s] w (ParRes (Cel.parse s.data.toList) w):=by
 obtain⟨R,hR⟩:=aj (Cel.parse s.data.toList);rw[hR];unfold Cel.parse at hR
 obtain⟨W1,hW1⟩:=aj (w.alloc (.cells #[.int .i64 0,.int .i64 0,.string ⟨#[]⟩,.slice none 0 0,.slice none 0 0] 51))
 have hb1:Below w.heap.size w W1:=by rw[<-hW1];exact(Below.refl _ w).alloc (rM _) _
 have hz1:W1.heap.size=w.heap.size+1:=by rw[<-hW1];simp
 have k1:Blk W1 w.heap.size 51 #[.int .i64 0,.int .i64 0,.string ⟨#[]⟩,.slice none 0 0,.slice none 0 0]:=by rw[<-hW1];exact Blk.new _ _ _
 have HL:=ah (hL.below hb1);have HW1:=ah hW1;have HB1:=ah hb1;have HK1:=ah k1
 have hhd:=fun(W:World)=>head_any s W (by omega)
 clear hW1 hb1 k1 hL;have hu:=undef_no
 have hfail: ∀(W:World) (x:Array Value) (tmps:Array Value) (er:Nat),R=(Cel.V0,er)->Below w.heap.size w W->Blk W w.heap.size 51 #[.int .i64 0,.int .i64 0,.string ⟨#[]⟩,.slice none 0 0,.slice none 0 0]->tmps.getD 2 undef=.pointer (some ⟨w.heap.size,0,none⟩)->tmps.getD 3 undef=.int .i64 er->
   bodyPost Tryz.prog Tryz.f117 (ParRes R w) .ret {tmps:=tmps,defers:=[]} (((((W.setCell ⟨w.heap.size,0,none⟩ (.int .i64 0)).setCell ⟨w.heap.size,1,none⟩ (.int .i64 0)).setCell ⟨w.heap.size,2,none⟩ (.string ⟨#[]⟩)).setCell ⟨w.heap.size,3,none⟩ (.slice none 0 0)).setCell ⟨w.heap.size,4,none⟩ (.slice none 0 0)):=by
  intro W x tmps er hr hb hk h2 h3
  refine ret_val2 Tryz.results117 h2 h3 (val_stored hk _ _ _ _ _) ?_
  exact⟨_,by rw[hr],by rw[hr];exact vown_zero _ _,hb.grown (val_stored_only W w.heap.size _ _ _ _ _) hb.size (fun j e=>by cases e;omega)⟩
 have hok: ∀(W:World) (tmps:Array Value) (v:Cel.V) (s t:Value),R=(v,0)->Below w.heap.size w W->Blk W w.heap.size 51 #[.int .i64 0,.int .i64 0,.string ⟨#[]⟩,.slice none 0 0,.slice none 0 0]->VOwn W w.heap.size (.agg #[.int .i64 v.kind,.int .i64 v.num,.string ⟨v.text.toArray⟩,s,t]) v->tmps.getD 2 undef=.pointer (some ⟨w.heap.size,0,none⟩)->tmps.getD 3 undef=.int .i64 0->
   bodyPost Tryz.prog Tryz.f117 (ParRes R w) .ret {tmps:=tmps,defers:=[]} (((((W.setCell ⟨w.heap.size,0,none⟩ (.int .i64 v.kind)).setCell ⟨w.heap.size,1,none⟩ (.int .i64 v.num)).setCell ⟨w.heap.size,2,none⟩ (.string ⟨v.text.toArray⟩)).setCell ⟨w.heap.size,3,none⟩ s).setCell ⟨w.heap.size,4,none⟩ t):=by
  intro W tmps v s t hr hb hk hv h2 h3;obtain⟨s',t',e,o1,o2⟩:=hv.ex
  have es:s=s':=by injection e with e;simp at e;exact e.1
  have et:t=t':=by injection e with e;simp at e;exact e.2
  subst es et
  have hon:=val_stored_only W w.heap.size (.int .i64 v.kind) (.int .i64 v.num) (.string ⟨v.text.toArray⟩) s t
  have nt: ∀{e:TypeId},e≠51-> ∀g c t fz,some w.heap.size=some g->W.heap[g]?=some (.cells c t fz)->t≠e:=fun he g c t fz e hc=>by
   cases e;unfold Blk at hk;rw[hk]at hc;cases hc;exact Ne.symm he
  refine ret_val2 Tryz.results117 h2 h3 (val_stored hk _ _ _ _ _) ?_
  exact⟨_,by rw[hr];rfl,by rw[hr];exact⟨_,_,rfl,own_kept_ty o1 hon (nt (by decide)),own_kept_ty o2 hon (nt (by decide))⟩,hb.grown hon hb.size (fun j e=>by cases e;omega)⟩
 have HOK:=ah hok;clear hok;have HFAIL:=ah hfail;clear hfail
 cases hh:Cel.headP s.data.toList with
 |none=>
  rw[hh]at hR;have hr:R=(Cel.V0,220):=hR.symm;have hhd2:=hhd;rw[hh]at hhd2
  simp only[headV]at hhd2;have HH:=ah hhd2;have HRR:=ah hr
  obtain⟨a0,a1,a2,a3,a4,f0,f1,f2,f3,f4⟩:=val_cells HK1.out;clear hhd hhd2 hr hR hh
  go_enter Tryz.func117,Tryz.ntmps117
  go_upto_region 1 with fail
  rw[HW1.out];clear HW1;go_wp2_with fail;refine(HH.out _).mono ?_;rintro e w1 ⟨rfl,rfl⟩
  go_wp2;exact HFAIL.out _ #[] _ 220 HRR.out HB1.out HK1.out rfl rfl
 |some kr=>
  obtain⟨k,r⟩:=kr;obtain⟨-,k1,k8⟩:=Cel.headP_some hh;have hrl:=headP_len hh
  rw[<-Lib.size_eq]at hrl;rw[hh]at hR hhd;simp only at hR;simp only[headV]at hhd
  obtain⟨z,hz⟩:=aj (⟨r.toArray⟩:ByteArray);have hzl:z.data.toList=r:=by rw[<-hz]
  have hzs:z.size=r.length:=by rw[<-hz];exact size_list _
  rw[hz]at hhd;have hbo:=bodyP_ok k1 k8 (show r.length<=1073741823 by omega)
  obtain⟨W2,hW2⟩:=aj (W1.alloc (.cells #[.int .i64 k,.int .i64 0,.string ⟨#[]⟩,.slice none 0 0,.slice none 0 0] 51))
  have hb2:Below W1.heap.size W1 W2:=by rw[<-hW2];exact(Below.refl _ W1).alloc (rM _) _
  have hz2:W2.heap.size=W1.heap.size+1:=by rw[<-hW2];simp
  have c2:Blk W2 W1.heap.size 51 #[.int .i64 k,.int .i64 0,.string ⟨#[]⟩,.slice none 0 0,.slice none 0 0]:=by rw[<-hW2];exact Blk.new _ _ _
  have HP2:Hid (PlRel W1.heap.size W1 k (.slice none 0 0) (.slice none 0 0) [] [] W2):=⟨c2,World.ownsRow_nil _ _ _ _,World.ownsRow_nil _ _ _ _,hb2,by omega⟩
  have HB2:=ah (HB1.trans (hb2.mono (by omega)))
  have HK2:=ah (HK1.below hb2 (by omega))
  have HC2:=ah c2;have HH:=ah hhd;have HW2:=ah hW2;have HR:=ah hR;have HBO:=ah hbo
  have HZ:=ah hz;have HZ12:=ah (⟨hz1,hz2⟩:_/\_);clear hhd hR hh hz hbo hW2 hb2 c2 hz1 hz2
  go_enter Tryz.func117,Tryz.ntmps117
  go_upto_region 1 with fail
  rw[HW1.out];clear HW1;go_wp2_with fail;refine(HH.out _).mono ?_;rintro e w1 ⟨rfl,rfl⟩
  go_upto_region 5 with fail
  rw[HW2.out];clear HW2;by_cases h4:4<k
  ·have d4:decide (4<k)=true:=rQ h4
   obtain⟨ns,ts,er,hv,hpl⟩: ∃(ns:List Int) (ts:List (List UInt8)) (er:Nat),Cel.bodyP k r=(⟨k,0,[],ns,ts⟩,er)/\Calls Tryz.prog 160 #[.pointer (some ⟨W1.heap.size,0,none⟩),.string z] W2 (PlRes W1.heap.size W1 k ns ts er):=by
    have hzr:z.size+1=r.length+1:=by omega
    by_cases h8:k=8
    ·subst h8
     refine⟨[],_,_, ?_,parseListT_any z W1 W2 (by omega) HP2.out⟩
     unfold Cel.bodyP;rw[rY h4,rY rfl,hzl,hzr]
    refine⟨_,[],_, ?_,parseListN_any k z W1 W2 (by omega) (by omega) (by omega) HL.out HP2.out⟩
    unfold Cel.bodyP;rw[rY h4,rU h8,hzl,hzr]
   have hrr0:=HR.out;rw[hv]at hrr0;simp only at hrr0;have hvk:=HBO.out;rw[hv]at hvk
   simp only at hvk;have HVK:=ah hvk;have HRB0:=ah hrr0;have HPL:=ah hpl
   have hz1:=HZ12.out.1;have hz2:=HZ12.out.2;have hw01:w.heap.size<=W1.heap.size:=by omega
   have hw02:w.heap.size<W1.heap.size:=by omega
   have hw03:w.heap.size<=W1.heap.size+1:=by omega
   clear hrr0 hvk hpl hv h4 HR HBO hz1 hz2
   obtain⟨b0,b1,b2,b3,b4,g0,g1,g2,g3,g4⟩:=val_cells HC2.out;go_wp2_with fail
   refine HPL.mono ?_;rintro e w3 ⟨rfl,hb3,hbig3,s,t,hc3,himp⟩
   have HB3:=ah (HB1.trans (hb3.mono hw01));have HK3:=ah (HK1.below hb3 hw02)
   have HC3:=ah hc3;have HIMP:=ah himp;clear hb3 hc3 himp b0 b1 b2 b3 b4 g0 g1 g2 g3 g4
   by_cases he:er=0
   ·subst he
    have hpr:=HIMP.out rfl;obtain⟨As,cs,rfl⟩:=own_form hpr.own
    obtain⟨At,ct,rfl⟩:=own_form hpr.owt
    have hvo:VOwn w3 w.heap.size (Value.agg #[.int .i64 k,.int .i64 0,.string ⟨#[]⟩,.slice As ns.length cs,.slice At ts.length ct]) ⟨k,0,[],ns,ts⟩:=⟨_,_,rfl,own_lower hpr.own hw03,own_lower hpr.owt hw03⟩
    have HVO:=ah hvo;have HVI:=ah (hvo.vin (HVK.out rfl));have hrb:=HRB0.out
    rw[rU (by simp)]at hrb
    have HRB:=ah hrb;clear hpr hvo hrb
    have hchk:=check_any w3.heap.size (Value.agg #[.int .i64 k,.int .i64 0,.string ⟨#[]⟩,.slice As ns.length cs,.slice At ts.length ct]) ⟨k,0,[],ns,ts⟩ w3 HVI.out (rM _)
    have hrr:=HRB.out;obtain⟨cv,hcv⟩:=aj (Cel.check ⟨k,0,[],ns,ts⟩);rw[hcv]at hchk hrr
    have HCK:=ah hchk;obtain⟨a0,a1,a2,a3,a4,f0,f1,f2,f3,f4⟩:=val_cells HK3.out
    obtain⟨b0,b1,b2,b3,b4,g0,g1,g2,g3,g4⟩:=val_cells HC3.out;clear hchk hcv
    go_wp2_with fail;refine HCK.mono ?_;rintro e wz ⟨rfl,hbz⟩
    have HBZ:=ah (HB3.trans (hbz.mono HB3.size));have HKZ:=ah (HK3.below hbz HK3.lt)
    have HCZ:=ah (HC3.below hbz HC3.lt);have HVZ:=ah (HVO.below hbz)
    clear hbz a0 a1 a2 a3 a4 f0 f1 f2 f3 f4 b0 b1 b2 b3 b4 g0 g1 g2 g3 g4
    obtain⟨a0,a1,a2,a3,a4,f0,f1,f2,f3,f4⟩:=val_cells HKZ.out;by_cases hc0:cv=0
    ·subst hc0
     rw[rU (by simp)]at hrr
     have HRR:=ah hrr.symm;have j0:=(HCZ.cell 0);have j1:=(HCZ.cell 1)
     have j2:=(HCZ.cell 2);have j3:=(HCZ.cell 3);have j4:=(HCZ.cell 4)
     simp at j0 j1 j2 j3 j4;clear hrr;go_wp2
     exact HOK.out _ _ ⟨k,0,[],ns,ts⟩ (.slice As ns.length cs) (.slice At ts.length ct) HRR.out HBZ.out HKZ.out HVZ.out rfl rfl
    rw[rY hc0]at hrr;have HRR:=ah hrr.symm;have t9:((cv:Int) !=0)=true:=by rw[tH];omega
    have t8:((cv:Int) == 0)=false:=by rw[rX];omega
    clear hrr hc0;go_wp2;exact HFAIL.out _ #[] _ cv HRR.out HBZ.out HKZ.out rfl rfl
   have hrb:=HRB0.out;rw[rY he]at hrb;have HRR:=ah hrb.symm
   have t9:((er:Int) !=0)=true:=by rw[tH];omega
   have t8:((er:Int) == 0)=false:=by rw[rX];omega
   clear hrb he;obtain⟨a0,a1,a2,a3,a4,f0,f1,f2,f3,f4⟩:=val_cells HK3.out;go_wp2
   exact HFAIL.out _ #[] _ er HRR.out HB3.out HK3.out rfl rfl
  have d4:decide (4<k)=false:=rO h4;have d4i:k<=4:=by omega
  have hz1:=HZ12.out.1;have hz2:=HZ12.out.2;have hw01:w.heap.size<=W1.heap.size:=by omega
  have hw02:w.heap.size<W1.heap.size:=by omega
  have hw03:w.heap.size<=W1.heap.size+1:=by omega
  have hw04:W1.heap.size<W2.heap.size:=by omega
  have hw05:w.heap.size<W2.heap.size:=by omega
  have hne:w.heap.size≠(⟨W1.heap.size,2,none⟩:Addr).block:=by show w.heap.size≠W1.heap.size;omega
  have hne1:w.heap.size≠(⟨W1.heap.size,1,none⟩:Addr).block:=by show w.heap.size≠W1.heap.size;omega
  clear hz1 hz2;have hrr0:=HR.out;have hvk:=HBO.out
  obtain⟨b0,b1,b2,b3,b4,g0,g1,g2,g3,g4⟩:=val_cells HC2.out;by_cases h44:k=4
  ·subst h44
   have hv:Cel.bodyP 4 r=(⟨4,0,r,[],[]⟩,0):=by unfold Cel.bodyP;rw[rU (by omega),rY rfl]
   rw[hv]at hrr0 hvk;simp only at hrr0 hvk;rw[rU (by simp)]at hrr0
   have HRB:=ah hrr0;obtain rfl:=HZ.out
   obtain⟨w3,hW3⟩:=aj (W2.setCell ⟨W1.heap.size,2,none⟩ (.string ⟨r.toArray⟩))
   have hc3:Blk w3 W1.heap.size 51 #[.int .i64 4,.int .i64 0,.string ⟨r.toArray⟩,.slice none 0 0,.slice none 0 0]:=by rw[<-hW3];exact Blk.cast (HC2.set_ 2 _) (by simp)
   have hb3:Below w.heap.size w w3:=by rw[<-hW3];exact HB2.setCell (p:=⟨W1.heap.size,2,none⟩) hw01 _
   have hk3:Blk w3 w.heap.size 51 #[.int .i64 0,.int .i64 0,.string ⟨#[]⟩,.slice none 0 0,.slice none 0 0]:=by rw[<-hW3];exact HK2.far hne _
   have hvo:VOwn w3 w.heap.size (Value.agg #[.int .i64 4,.int .i64 0,.string ⟨r.toArray⟩,.slice none 0 0,.slice none 0 0]) ⟨4,0,r,[],[]⟩:=⟨_,_,rfl,World.ownsRow_nil _ _ _ _,World.ownsRow_nil _ _ _ _⟩
   have HVO:=ah hvo;have HVI:=ah (hvo.vin (hvk trivial));have HB3:=ah hb3;have HK3:=ah hk3
   have HC3:=ah hc3;have HW3:=ah hW3
   clear hW3 hc3 hb3 hk3 hvo hrr0 hvk hv h4 HR HBO hne hne1
   go_upto_region 11 with fail
   rw[HW3.out];clear HW3 b0 b1 b2 b3 b4 g0 g1 g2 g3 g4
   have hchk:=check_any w3.heap.size (Value.agg #[.int .i64 4,.int .i64 0,.string ⟨r.toArray⟩,.slice none 0 0,.slice none 0 0]) ⟨4,0,r,[],[]⟩ w3 HVI.out (rM _)
   have hrr:=HRB.out;obtain⟨cv,hcv⟩:=aj (Cel.check ⟨4,0,r,[],[]⟩);rw[hcv]at hchk hrr
   have HCK:=ah hchk;obtain⟨a0,a1,a2,a3,a4,f0,f1,f2,f3,f4⟩:=val_cells HK3.out
   obtain⟨b0,b1,b2,b3,b4,g0,g1,g2,g3,g4⟩:=val_cells HC3.out;clear hchk hcv
   go_wp2_with fail;refine HCK.mono ?_;rintro e wz ⟨rfl,hbz⟩
   have HBZ:=ah (HB3.trans (hbz.mono HB3.size));have HKZ:=ah (HK3.below hbz HK3.lt)
   have HCZ:=ah (HC3.below hbz HC3.lt);have HVZ:=ah (HVO.below hbz)
   clear hbz a0 a1 a2 a3 a4 f0 f1 f2 f3 f4 b0 b1 b2 b3 b4 g0 g1 g2 g3 g4
   obtain⟨a0,a1,a2,a3,a4,f0,f1,f2,f3,f4⟩:=val_cells HKZ.out;by_cases hc0:cv=0
   ·subst hc0
    rw[rU (by simp)]at hrr
    have HRR:=ah hrr.symm;have j0:=(HCZ.cell 0);have j1:=(HCZ.cell 1)
    have j2:=(HCZ.cell 2);have j3:=(HCZ.cell 3);have j4:=(HCZ.cell 4)
    simp at j0 j1 j2 j3 j4;clear hrr;go_wp2
    exact HOK.out _ _ ⟨4,0,r,[],[]⟩ (.slice none 0 0) (.slice none 0 0) HRR.out HBZ.out HKZ.out HVZ.out rfl rfl
   rw[rY hc0]at hrr;have HRR:=ah hrr.symm;have t9:((cv:Int) !=0)=true:=by rw[tH];omega
   have t8:((cv:Int) == 0)=false:=by rw[rX];omega
   clear hrr hc0;go_wp2;exact HFAIL.out _ #[] _ cv HRR.out HBZ.out HKZ.out rfl rfl
  have t44:(k == 4)=false:=rX.2 h44
  have hpn:=parseNum_any k z W2 k1 (by omega) (by omega) (HL.below HP2.bel)
  rw[hzl]at hpn;obtain⟨y,er,hN⟩: ∃y er,Cel.numP k r=(y,er):=⟨_,_,rfl⟩
  have hv:Cel.bodyP k r=(⟨k,y,[],[],[]⟩,er):=by unfold Cel.bodyP;rw[rU h4,rU h44,hN]
  rw[hN]at hpn;rw[hv]at hrr0 hvk;simp only at hrr0 hvk;have HPN:=ah hpn
  have HRB0:=ah hrr0;have HVK:=ah hvk;have HNE:=ah hne1
  clear hpn hN hv hrr0 hvk h4 h44 HR HBO hne hne1;go_wp2_with fail;refine HPN.mono ?_
  rintro e w9 ⟨rfl,hb9⟩;have HC9:=ah (HC2.below hb9 hw04)
  have HK9:=ah (HK2.below hb9 hw05)
  have HB9:=ah (HB2.trans (hb9.mono (Nat.le_of_lt hw05)))
  clear hb9 b0 b1 b2 b3 b4 g0 g1 g2 g3 g4
  obtain⟨b0,b1,b2,b3,b4,g0,g1,g2,g3,g4⟩:=val_cells HC9.out
  obtain⟨w3,hW3⟩:=aj (w9.setCell ⟨W1.heap.size,1,none⟩ (.int .i64 y))
  have hc3:Blk w3 W1.heap.size 51 #[.int .i64 k,.int .i64 y,.string ⟨#[]⟩,.slice none 0 0,.slice none 0 0]:=by rw[<-hW3];exact Blk.cast (HC9.set_ 1 _) (by simp)
  have hb3:Below w.heap.size w w3:=by rw[<-hW3];exact HB9.setCell (p:=⟨W1.heap.size,1,none⟩) hw01 _
  have hk3:Blk w3 w.heap.size 51 #[.int .i64 0,.int .i64 0,.string ⟨#[]⟩,.slice none 0 0,.slice none 0 0]:=by rw[<-hW3];exact HK9.far HNE.out _
  have HB3:=ah hb3;have HK3:=ah hk3;have HC3:=ah hc3;have HW3:=ah hW3
  clear hW3 hc3 hb3 hk3
  go_upto_region 11 with fail
  rw[HW3.out];clear HW3 b0 b1 b2 b3 b4 g0 g1 g2 g3 g4;by_cases he:er=0
  ·subst he
   have hvo:VOwn w3 w.heap.size (Value.agg #[.int .i64 k,.int .i64 y,.string ⟨#[]⟩,.slice none 0 0,.slice none 0 0]) ⟨k,y,[],[],[]⟩:=⟨_,_,rfl,World.ownsRow_nil _ _ _ _,World.ownsRow_nil _ _ _ _⟩
   have HVO:=ah hvo;have HVI:=ah (hvo.vin (HVK.out rfl));have hrb:=HRB0.out
   rw[rU (by simp)]at hrb
   have HRB:=ah hrb;clear hvo hrb
   have hchk:=check_any w3.heap.size (Value.agg #[.int .i64 k,.int .i64 y,.string ⟨#[]⟩,.slice none 0 0,.slice none 0 0]) ⟨k,y,[],[],[]⟩ w3 HVI.out (rM _)
   have hrr:=HRB.out;obtain⟨cv,hcv⟩:=aj (Cel.check ⟨k,y,[],[],[]⟩)
   rw[hcv]at hchk hrr;have HCK:=ah hchk
   obtain⟨a0,a1,a2,a3,a4,f0,f1,f2,f3,f4⟩:=val_cells HK3.out
   obtain⟨b0,b1,b2,b3,b4,g0,g1,g2,g3,g4⟩:=val_cells HC3.out;clear hchk hcv
   go_wp2_with fail;refine HCK.mono ?_;rintro e wz ⟨rfl,hbz⟩
   have HBZ:=ah (HB3.trans (hbz.mono HB3.size));have HKZ:=ah (HK3.below hbz HK3.lt)
   have HCZ:=ah (HC3.below hbz HC3.lt);have HVZ:=ah (HVO.below hbz)
   clear hbz a0 a1 a2 a3 a4 f0 f1 f2 f3 f4 b0 b1 b2 b3 b4 g0 g1 g2 g3 g4
   obtain⟨a0,a1,a2,a3,a4,f0,f1,f2,f3,f4⟩:=val_cells HKZ.out;by_cases hc0:cv=0
   ·subst hc0
    rw[rU (by simp)]at hrr
    have HRR:=ah hrr.symm;have j0:=(HCZ.cell 0);have j1:=(HCZ.cell 1)
    have j2:=(HCZ.cell 2);have j3:=(HCZ.cell 3);have j4:=(HCZ.cell 4)
    simp at j0 j1 j2 j3 j4;clear hrr;go_wp2
    exact HOK.out _ _ ⟨k,y,[],[],[]⟩ (.slice none 0 0) (.slice none 0 0) HRR.out HBZ.out HKZ.out HVZ.out rfl rfl
   rw[rY hc0]at hrr;have HRR:=ah hrr.symm;have t9:((cv:Int) !=0)=true:=by rw[tH];omega
   have t8:((cv:Int) == 0)=false:=by rw[rX];omega
   clear hrr hc0;go_wp2;exact HFAIL.out _ #[] _ cv HRR.out HBZ.out HKZ.out rfl rfl
  have hrb:=HRB0.out;rw[rY he]at hrb;have HRR:=ah hrb.symm
  have t9:((er:Int) !=0)=true:=by rw[tH];omega
  have t8:((er:Int) == 0)=false:=by rw[rX];omega
  clear hrb he;obtain⟨a0,a1,a2,a3,a4,f0,f1,f2,f3,f4⟩:=val_cells HK3.out;go_wp2
  exact HFAIL.out _ #[] _ er HRR.out HB3.out HK3.out rfl rfl
end Go.Proofs.YtanlehkalkafdaaGreatDoor
namespace Go.Proofs.YtanlehkalkafdaaGreatDoor
open Go.ChangeShapes Go.WideShapes Go.ChangeAt Go.RowKit
theorem own_knob:ownKnob Tryz.prog.godebug=none:=by kernel_rfl
theorem laid_out:laidOutB Tryz.prog=true:=by kernel_rfl
theorem errStar: "*" ++ "errors.errorString" = "*errors.errorString" :=by decide
theorem errRow (u:TypeId) (h:Tryz.prog.typeName? 3 u=some "*errors.errorString"):u=304:=
 typeName_ptr_named (nm:= "errors.errorString") (by rw[errStar];kernel_rfl) (by kernel_rfl) (by decide) u (by rw[errStar];exact h)
theorem eBru:(Rows.laid_math_bits_deBruijn64tab:DataW Unit)=Lib.tabData .u8 (Lib.deBruijn64tab.map fun x:Nat=>(x:Int)):=by kernel_rfl
theorem ePow:(Rows.laid_internal_strconv_uint64pow10:DataW Unit)=Lib.tabData .u64 Lib.pow10Tab:=by kernel_rfl
def laidList:List (String×DataW Unit):=[("math/bits.deBruijn32tab",Rows.laid_math_bits_deBruijn32tab),("math/bits.deBruijn64tab",Rows.laid_math_bits_deBruijn64tab),("internal/strconv.uint64pow10",Rows.laid_internal_strconv_uint64pow10),("unicode/utf8.acceptRanges",Rows.laid_unicode_utf8_acceptRanges),("strconv.ErrRange",Rows.laid_strconv_ErrRange),("strconv.ErrSyntax",Rows.laid_strconv_ErrSyntax),("unicode/utf8.first",Rows.laid_unicode_utf8_first)]
theorem noHandles:(laidList.filter fun x=>x.2.handleName?.isSome)=[]:=by kernel_rfl
theorem laid_of {W:World} (h:laidMetH Tryz.prog laidList W) (hS:W.ShapedOpen Tryz.prog):Laid W:=by
 have hL:laidMet Tryz.prog laidList W:=by
  unfold laidMetH at h;rw[noHandles]at h;exact h
 have h1:=hL.tail;have h2:=h1.tail;have h4:=h2.tail.tail;have h5:=h4.tail;rw[eBru]at h1
 rw[ePow]at h2
 have t1:Lib.TabIs Tryz.prog W "math/bits.deBruijn64tab" .u8 (Lib.deBruijn64tab.map fun x:Nat=>(x:Int)):=
  Lib.tabIs_of_head (n:=64) gBru (by kernel_rfl) Tryz.underlying302 Tryz.underlying5 (by kernel_rfl) (by kernel_rfl) h1
 have t2:Lib.TabIs Tryz.prog W "internal/strconv.uint64pow10" .u64 Lib.pow10Tab:=
  Lib.tabIs_of_head (n:=20) gPow (by kernel_rfl) Tryz.underlying281 Tryz.underlying161 (by kernel_rfl) (by kernel_rfl) h2
 obtain⟨a0,s0,hv0,-,-,-⟩:=laid_sentinel (g:=5) h4 gRng (by kernel_rfl) Tryz.underlying109 errRow Tryz.underlying304 Tryz.underlying306 rfl rfl Tryz.underlying9 (by kernel_rfl) (by kernel_rfl)
 obtain⟨a1,s1,hv1,-,-,-⟩:=laid_sentinel (g:=4) h5 gSyn (by kernel_rfl) Tryz.underlying109 errRow Tryz.underlying304 Tryz.underlying306 rfl rfl Tryz.underlying9 (by kernel_rfl) (by kernel_rfl)
 refine⟨t2,⟨_,t1,fun j hj=> ?_⟩,⟨_,_,hv1⟩,⟨_,_,hv0⟩, ?_⟩
 ·have hl:Lib.deBruijn64tab.length=64:=by decide
  have hj':j<Lib.deBruijn64tab.length:=by omega
  simp[List.getD,hj']
 exact Go.Proofs.cell_of_shapedOpen_int (zero:= #[.int .i64 0]) (t:=3) hS (sQ (by kernel_rfl)) (by kernel_rfl) rfl (by kernel_rfl) (by kernel_rfl) Tryz.underlying3
section
variable {H:Type} {enc:TypeId×Value->H} {P:Program}
theorem post_below {f:Func} {s:ChangeSpec} {apart fresh handsOn again:Bool} {W W':World} {args:Array Value} {v:Value} {ds gs:List (DataW H)} {before pa pv:List MemPlace}
  (hW:DataW.Whole enc P f.params.toList s.vars apart W args.toList ds gs before)
  (hres: ∀(b:Nat) (sp:Nat->Bool) (hd:Bool),DataW.TrodAll enc P W' b sp hd f.resultTypes.toList (v.resultList f.resultTypes.size) (s.fn H (ds++gs)).results [])
  (hargs: ∀sp:Nat->Bool,(∀p∈before,sp p.block=true)->DataW.TrodAll enc P W' 0 sp true f.params.toList args.toList (s.fn H (ds++gs)).args pa)
  (hvars: ∀sp:Nat->Bool,(∀p∈before,sp p.block=true)->DataW.TrodVars enc P W' sp s.vars (s.fn H (ds++gs)).vars pv)
  (hps:before=pa++pv) (hb:Below W.heap.size W W')
  (hok: ∀(j:Nat) (t:TypeId) (r:Value),f.resultTypes[j]?=some t->(v.resultList f.resultTypes.size)[j]?=some r->Value.okWide P W' .any 0 t r):
  s.post enc P f apart fresh handsOn again W args v W':=by
 have hlt: ∀p∈before,p.block<W.heap.size:=fun p hp=>hW.lt p hp
 have hold: ∀p∈before,(fun b=>decide (b<W.heap.size)) p.block=true:=fun p hp=>by simpa using hlt p hp
 refine⟨ds,gs,before,[],pa,pv,hW,hres _ _ _,hargs _ hold,hvars _ hold,World.keptBut_mono (fun p hp=>⟨hp, ?_⟩) (hb.frame (· ∈before)),fun _=> ?_⟩
 ·rw[hps,tZ]at hp
  exact Or.inr hp
 obtain⟨_,_,_,_,_,hz,hn⟩:=hW
 refine⟨hok,_,_,([]++pa)++pv,⟨[]++pa,pv,trodAll_append (hargs _ (fun _ _=>rfl)) (hres _ _ _),hvars _ (fun _ _=>rfl),rfl, ?_, ?_⟩, ?_⟩
 ·intro b off hp
  have hin:MemPlace.cell b off∈before:=by rw[hps];simpa using hp
  rw[hb.frozen (hlt _ hin)];exact hz b off hin
 ·intro ha
  have:=hn ha;rw[hps]at this
  simpa using this
 intro p hp _;rw[hps]
 simpa using hp
theorem trodAll_stay {W W':World} (hl:laidOutB P=true) (hb:Below W.heap.size W W') {sp:Nat->Bool}: ∀{ts:List TypeId} {vs:List Value} {ds:List (DataW H)} {ps:List MemPlace},
  (∀t∈ts,P.readableRec t=true/\t<P.types.size)->DataW.TrodAll enc P W 0 (fun _=>true) true ts vs ds ps->(∀p∈ps,sp p.block=true)->(∀p∈ps,p.block<W.heap.size)->
  DataW.TrodAll enc P W' 0 sp true ts vs ds ps
 |[],[],[],_,_,h,_,_=>h
 |t :: ts,v :: vs,d :: ds,ps,ht,⟨p,q,⟨n,h1⟩,h2,e⟩,hs,hlt=>by
  have hp: ∀x∈p,x∈ps:=fun x hx=>by rw[e];exact wZ _ hx
  have hq: ∀x∈q,x∈ps:=fun x hx=>by rw[e];exact yB _ hx
  have hh:=ht t (uD.2 (.inl rfl))
  exact⟨p,q,⟨n,DataW.trod_stays (kids_book hl hh.1) (book_sized hh.1) (fun h=>by cases h) ⟨hh.2,book_self t⟩ h1 (fun x hx=>hb.same (hlt x (hp x hx))) (fun x hx=>hs x (hp x hx))⟩,
   trodAll_stay hl hb (fun u hu=>ht u (uD.2 (.inr hu))) h2 (fun x hx=>hs x (hq x hx)) (fun x hx=>hlt x (hq x hx)),e⟩
end
def numsOf:DataW Unit->List Value
 |.agg ds=>ds.map fun d=>match d with|.lit (.int k i)=> .int k i|_=>undef
 |_=> []
def acceptCells:Array Value:= #[.int .u8 128,.int .u8 191,.int .u8 160,.int .u8 191,.int .u8 128,.int .u8 159,.int .u8 144,.int .u8 191,.int .u8 128,.int .u8 143,.int .u8 0,.int .u8 0,.int .u8 0,.int .u8 0,.int .u8 0,.int .u8 0,.int .u8 0,.int .u8 0,.int .u8 0,.int .u8 0,.int .u8 0,.int .u8 0,.int .u8 0,.int .u8 0,.int .u8 0,.int .u8 0,.int .u8 0,.int .u8 0,.int .u8 0,.int .u8 0,.int .u8 0,.int .u8 0]
def layCells (cs:Array Value):Obj->Obj
 |.cells _ t frozen=> .cells cs t frozen
 |o=>o
noncomputable abbrev N0:Nat:=(World.settled Tryz.prog default).heap.size
noncomputable def laidWorld (os:Os):World:=
 let N:=(World.settled Tryz.prog os).heap.size
 let w0:=World.holding Tryz.prog os ⟨#[.cells #[.string ⟨#[118,97,108,117,101,32,111,117,116,32,111,102,32,114,97,110,103,101]⟩] 306,.cells #[.string ⟨#[105,110,118,97,108,105,100,32,115,121,110,116,97,120]⟩] 306],#[],[]⟩
 {w0 with heap:=((((((w0.heap.modify 7 (layCells (numsOf Rows.laid_math_bits_deBruijn32tab).toArray)).modify 6 (layCells (numsOf Rows.laid_math_bits_deBruijn64tab).toArray)).modify 3 (layCells (numsOf Rows.laid_internal_strconv_uint64pow10).toArray)).modify 2 (layCells acceptCells)).modify 1 (layCells (numsOf Go.Pinned.utf8First).toArray)).modify 5 (layCells #[.iface 304 (.pointer (some ⟨N,0,none⟩))])).modify 4 (layCells #[.iface 304 (.pointer (some ⟨N+1,0,none⟩))])}
theorem laid_met (os:Os) (args:Array Value):laidMet Tryz.prog laidList ((laidWorld os).forCall (fun _ _=>0) ⟨#[],args,[]⟩).memory:=
 (LaidIn.of_run (l:=laidList) [7,6,3,2,5,N0,4,N0+1,1] 8 (by kernel_rfl) (by kernel_rfl) (by kernel_rfl) (by kernel_rfl)).met
end Go.Proofs.YtanlehkalkafdaaGreatDoor
namespace Go.Proofs.YtanlehkalkafdaaGreatDoor
open Go.Joins Go.ChangeShapes Go.WideShapes Go.ChangeAt Go.RowKit Go.Deep
theorem cell_lt {w:World} {a:Addr} {v:Value} (h:w.cell? a=some v):a.block<w.heap.size:=by
 rcases wW a.block w.heap.size with h0|h0
 ·exact h0
 unfold World.cell? at h;simp[xY h0]at h
theorem reads_of {W:World} {a:Addr} {len:Nat} {xs:List Value} (hl:xs.length=len) (h: ∀(i:Nat) u,xs[i]?=some u->W.cell? (a.add i)=some u):Reads W W.heap.size 1 (some a) len xs:=by
 refine⟨by simpa using hl,fun h0=> ?_⟩
 have c0:=h 0 (xs[0]'(by omega)) (ay _)
 have hsp:a.spot=none:=by simpa[Addr.add] using World.cell?_spot c0
 obtain⟨b,o,sp⟩:=a;simp only at hsp;subst hsp
 refine⟨b,o,rfl,by have:=cell_lt c0;simpa[block_of_add] using this,fun j u hj=> ?_⟩
 have:=h j u hj
 rwa [add_at]at this
theorem bulk_lits {H:Type} {k:IntKind}: ∀l:List Int,Rows.uptoBulkAll (H:=H) (lits k l)=l.length
 |[]=>rfl
 |_ :: r=>by
  have:=bulk_lits (H:=H) (k:=k) r
  simp only[lits,tV,Rows.uptoBulkAll,Rows.uptoBulk,sS]at this⊢;omega
theorem bulk_strs {H:Type}: ∀l:List ByteArray,Rows.uptoBulkAll (H:=H) (strs l)=(l.map fun s=>s.size+1).sum
 |[]=>rfl
 |s :: r=>by
  have:=bulk_strs (H:=H) r;have hs:=Lib.size_eq s
  simp only[strs,tV,Rows.uptoBulkAll,Rows.uptoBulk,vO]at this⊢;omega
theorem sum_mem {l:List ByteArray} {s:ByteArray} (h:s∈l):s.size+1<=(l.map fun s=>s.size+1).sum/\l.length<=(l.map fun s=>s.size+1).sum:=by
 induction l with
 |nil=>cases h
 |cons a l ih=>
  simp only[tV,vO,sS]
  have hl: ∀l:List ByteArray,l.length<=(l.map fun s=>s.size+1).sum:=by
   intro l
   induction l with
   |nil=>simp
   |cons a l ih=>simp only[tV,vO,sS];omega
  have:=hl l
  rcases uD.1 h with rfl|h
  ·omega
  have:=ih h;omega
section
variable {H:Type} {enc:TypeId×Value->H} {W:World}
theorem open_nums {n:Nat} {v:Value} {y:DataW H×List MemPlace} (h:DataW.trod enc Tryz.prog W 0 (fun _=>true) true n 49 [v]=some y):
  ∃A c ns,v=.slice A (List.length ns) c/\Reads W W.heap.size 1 A ns.length (ns.map I64)/\(∀m∈ns,Cel.In64 m)/\ns.length<=Rows.uptoBulk y.1:=by
 rcases open_ints Tryz.underlying49 Tryz.underlying2 (by kernel_rfl) h with⟨hc,hx⟩|⟨a,len,cap,zs,hc,_,hl,_,hz,hx,hcell,hwf⟩
 ·simp only[wI,yJ]at hc
  exact⟨none,0,[],hc,Reads.none_,by simp,by simp⟩
 simp only[wI,yJ]at hc;simp only[yO]at hz
 have ht:(zs.take len).length=len:=by rw[tK];omega
 refine⟨some a,cap,zs.take len,by rw[ht];exact hc, ?_,fun m hm=> ?_, ?_⟩
 ·rw[ht]
  refine reads_of (by simp;omega) fun i u hi=> ?_
  rw[tu]at hi;obtain⟨z,hz',rfl⟩:=uP.1 hi;obtain⟨hlt,he⟩:=rZ.1 hz'
  have hlt':i<zs.length:=by rw[ht]at hlt;omega
  rw[hcell i hlt',yu,ay hlt'];rw[yY]at he;simp[I64,he]
 ·have:=hwf m (xg hm)
  simp only[Lit.wf,uy,tX]at this;exact this
 rw[hx];simp only[Rows.uptoBulk,bulk_lits];omega
theorem open_texts {n:Nat} {v:Value} {y:DataW H×List MemPlace} (h:DataW.trod enc Tryz.prog W 0 (fun _=>true) true n 45 [v]=some y):
  ∃A c ts,v=.slice A (List.length ts) c/\Reads W W.heap.size 1 A ts.length (ts.map ST)/\(∀t∈ts,t.length<=Rows.uptoBulk y.1)/\ts.length<=Rows.uptoBulk y.1:=by
 rcases open_strings Tryz.underlying45 Tryz.underlying9 (by kernel_rfl) h with⟨hc,hx⟩|⟨a,len,cap,ss,hc,_,hl,_,hz,hx,hcell,_⟩
 ·simp only[wI,yJ]at hc
  exact⟨none,0,[],hc,Reads.none_,by simp,by simp⟩
 simp only[wI,yJ]at hc;simp only[yO]at hz
 have ht:(ss.take len).length=len:=by rw[tK];omega
 have hb:(ss.take len).length<=Rows.uptoBulk y.1/\ ∀s∈ss.take len,s.size<=Rows.uptoBulk y.1:=by
  rw[hx];simp only[Rows.uptoBulk,bulk_strs]
  constructor
  ·by_cases h0:0<(ss.take len).length
   ·have:=(sum_mem (AO h0)).2
    omega
   omega
  intro s hs;have:=(sum_mem hs).1;omega
 refine⟨some a,cap,(ss.take len).map fun s=>s.data.toList,by rw[sU,ht];exact hc, ?_,fun t hm=> ?_,by rw[sU];exact hb.1⟩
 ·rw[sU,ht]
  refine reads_of (by simp;omega) fun i u hi=> ?_
  rw[vV,tu]at hi;obtain⟨z,hz',rfl⟩:=uP.1 hi;obtain⟨hlt,he⟩:=rZ.1 hz'
  have hlt':i<ss.length:=by rw[ht]at hlt;omega
  rw[hcell i hlt',yu,ay hlt'];rw[yY]at he;simp[ST,he]
 obtain⟨s,hs,rfl⟩:=uU.1 hm;have:=hb.2 s hs
 rwa [Lib.size_eq]at this
end
end Go.Proofs.YtanlehkalkafdaaGreatDoor
namespace Go.Proofs.YtanlehkalkafdaaGreatDoor.Gr
open Go
abbrev L:=List UInt8
structure P where
 key:L
 val:Cel.V
structure N where
 id:Int
 labels:List L
 props:List P
structure R where
 id:Int
 type:L
 src:Int
 dst:Int
 props:List P
structure G where
 nodes:List N
 rels:List R
def G0:G:=⟨[],[]⟩
def goodName (s:L):Bool:=decide (s≠ []) && decide (s.length<=40) && !(s.head?.any Num.isDig) && s.all Lex.inWord
section
variable {κ α:Type} (f:Option κ->α->Nat) (key:α->κ)
def first:Option κ->List α->Nat->Nat×Nat
 |_,[],_=>(0,0)
 |p,a :: r,i=>if f p a≠0 then(f p a,i) else first (some (key a)) r (i+1)
def prevAt (l:List α):Nat->Option κ
 |0=>none
 |k+1=>l[k]?.map key
theorem first_at: ∀(l:List α) (p:Option κ) (i k:Nat),k<=l.length->(∀j a,j<k->l[j]?=some a->f (if j=0 then p else prevAt key l j) a=0)->
  first f key p l i=first f key (if k=0 then p else prevAt key l k) (l.drop k) (i+k)
 |l,p,i,0,_,_=>by simp
 |[],p,i,k+1,h,_=>by simp at h
 |a :: r,p,i,k+1,h,h0=>by
  have ha:f p a=0:=h0 0 a (by omega) rfl
  have:=first_at r (some (key a)) (i+1) k (by simpa using h) (fun j b hj hb=>by
   have:=h0 (j+1) b (by omega) (by simpa using hb)
   rw[rU (by omega)]at this
   cases j with
   |zero=>simpa[prevAt] using this
   |succ j=>rw[rU (by omega)];simpa[prevAt] using this)
  rw[first,rU (by rw[ha];decide),this,rU (show¬k+1=0 by omega),vF]
  congr 1
  ·cases k with
   |zero=>simp[prevAt]
   |succ k=>rw[rU (by omega)];simp[prevAt]
  omega
theorem first_zero {l:List α} {i:Nat} (h0: ∀j a,l[j]?=some a->f (prevAt key l j) a=0):first f key none l i=(0,0):=by
 have:=first_at f key l none i l.length (rM _) (fun j a _ ha=>by
  have:=h0 j a ha;cases j with
  |zero=>simpa[prevAt] using this
  |succ j=>rw[rU (by omega)];exact this)
 rw[this,Cc,first]
theorem first_bad {l:List α} {i k:Nat} {a:α} {e:Nat} (ha:l[k]?=some a) (he:f (prevAt key l k) a=e) (hne:e≠0) (h0: ∀j a,j<k->l[j]?=some a->f (prevAt key l j) a=0):first f key none l i=(e,i+k):=by
 obtain⟨hk,hka⟩:=rZ.1 ha
 have:=first_at f key l none i k (by omega) (fun j a hj ha=>by
  have:=h0 j a hj ha;cases j with
  |zero=>simpa[prevAt] using this
  |succ j=>rw[rU (by omega)];exact this)
 rw[this,tJ hk,hka,first]
 have hp:(if k=0 then none else prevAt key l k)=prevAt key l k:=by
  cases k with
  |zero=>rfl
  |succ k=>rw[rU (by omega)]
 rw[hp,he,rY hne]
theorem first_inv: ∀(l:List α) (p:Option κ) (i:Nat),(first f key p l i).1=0-> ∀j a,l[j]?=some a->f (if j=0 then p else prevAt key l j) a=0
 |[],_,_,_,j,a,h=>by simp at h
 |b :: r,p,i,h,j,a,hj=>by
  rw[first]at h
  split at h
  ·rename_i hne
   exact absurd h hne
  rename_i hne;have hb:f p b=0:=Decidable.not_not.1 hne;cases j with
  |zero=>simp only[sD,uH]at hj;subst hj;simpa using hb
  |succ j=>
   have:=first_inv r (some (key b)) (i+1) h j a (by simpa using hj)
   rw[rU (by omega)]
   cases j with
   |zero=>simpa[prevAt] using this
   |succ j=>rw[rU (by omega)]at this;simpa[prevAt] using this
theorem first_all {l:List α} {i:Nat} (h:(first f key none l i).1=0): ∀j a,l[j]?=some a->f (prevAt key l j) a=0:=fun j a ha=>by
 have:=first_inv f key l none i h j a ha;cases j with
 |zero=>simpa[prevAt] using this
 |succ j=>rw[rU (by omega)]at this;exact this
end
def propWrong (prev:Option L) (p:P):Nat:=if goodName p.key=false then 60 else if prev.any (fun q=>decide (p.key<=q))=true then 6 else Cel.check p.val
def propsWrong (ps:List P):Nat:=if 16<ps.length then 64 else(first propWrong P.key none ps 0).1
def labelWrong (prev:Option L) (l:L):Nat:=if goodName l=false then 60 else if prev.any (fun q=>decide (l<=q))=true then 6 else 0
def labelsWrong (ls:List L):Nat:=if 8<ls.length then 63 else(first labelWrong id none ls 0).1
def nodeWrong (prev:Option Int) (n:N):Nat:=
 if n.id<0\/1024<=n.id then 61 else if prev.any (fun q=>decide (n.id<=q))=true then 6 else if labelsWrong n.labels≠0 then labelsWrong n.labels else propsWrong n.props
def relWrong (ids:List Int) (prev:Option Int) (r:R):Nat:=
 if r.id<0\/2048<=r.id then 62 else if prev.any (fun q=>decide (r.id<=q))=true then 6 else if goodName r.type=false then 60 else
 if r.src∉ids\/r.dst∉ids then 65 else propsWrong r.props
def dedup:List L->List L
 |[]=> []
 |a :: r=>if a∈r then dedup r else a :: dedup r
def names1 (g:G):List L:=g.nodes.flatMap N.labels
def names2 (g:G):List L:=g.rels.map R.type
def allProps (g:G):List P:=g.nodes.flatMap N.props++g.rels.flatMap R.props
def names3 (g:G):List L:=(allProps g).map P.key
def encLen (v:Cel.V):Nat:=
 if v.kind<4 then(if v.kind=1 then 2 else 9) else if v.kind=4 then 3+v.text.length else
 2+v.nums.length*(if v.kind=5 then 1 else 8)+(v.texts.map fun t=>2+t.length).sum
def weightOf (ps:List P):Nat:=(ps.map fun p=>encLen p.val).sum
def weight (g:G):Nat:=weightOf (allProps g)
def check (g:G):Nat×Nat:=
 if(first nodeWrong N.id none g.nodes 0).1≠0 then first nodeWrong N.id none g.nodes 0 else
 if(first (relWrong (g.nodes.map N.id)) R.id none g.rels g.nodes.length).1≠0 then first (relWrong (g.nodes.map N.id)) R.id none g.rels g.nodes.length else
 if 200<(dedup (names1 g)).length\/200<(dedup (names2 g)).length\/200<(dedup (names3 g)).length then(66,0) else
 if 262144<weight g then(67,0) else(0,0)
theorem mem_dedup {x:L}: ∀{l:List L},x∈dedup l↔x∈l
 |[]=>by simp[dedup]
 |a :: r=>by
  rw[dedup]
  split
  ·rename_i h
   rw[mem_dedup,uD];exact⟨.inr,fun h'=>h'.elim (fun e=>e▸h) id⟩
  rw[uD,uD,mem_dedup]
theorem nodup_dedup: ∀l:List L,(dedup l).Nodup
 |[]=>by simp[dedup]
 |a :: r=>by
  rw[dedup]
  split
  ·exact nodup_dedup r
  rename_i h;exact CJ.2 ⟨fun h'=>h (mem_dedup.1 h'),nodup_dedup r⟩
theorem perm_of_nodup {a b:List L} (ha:a.Nodup) (hb:b.Nodup) (h: ∀x,x∈a↔x∈b):a.Perm b:=(yw ha hb).2 h
theorem dedup_length {a l:List L} (ha:a.Nodup) (h: ∀x,x∈a↔x∈l):a.length=(dedup l).length:=(perm_of_nodup ha (nodup_dedup l) (fun x=>(h x).trans mem_dedup.symm)).length_eq
def sortBy {α κ:Type} (le:κ->κ->Bool) (key:α->κ) (l:List α):List α:=l.mergeSort fun a b=>le (key a) (key b)
def canonProps (ps:List P):List P:=sortBy (fun a b:L=>decide (a<=b)) P.key ps
def canonLabels (ls:List L):List L:=sortBy (fun a b:L=>decide (a<=b)) id ls
def canonNode (n:N):N:=⟨n.id,canonLabels n.labels,canonProps n.props⟩
def canonRel (r:R):R:=⟨r.id,r.type,r.src,r.dst,canonProps r.props⟩
def canon (g:G):G:=⟨sortBy (fun a b:Int=>decide (a<=b)) N.id (g.nodes.map canonNode),sortBy (fun a b:Int=>decide (a<=b)) R.id (g.rels.map canonRel)⟩
end Go.Proofs.YtanlehkalkafdaaGreatDoor.Gr
namespace Go.Proofs.YtanlehkalkafdaaGreatDoor
open Go.RowKit
def Lst {α:Type} (W:World) (B size:Nat) (R:α->List Value->Prop) (A:Option Addr) (l:List α):Prop:=
 ∀(i:Nat) (a:α),l[i]?=some a-> ∃b off cs,A=some ⟨b,off,none⟩/\b<B/\R a cs/\cs.length=size/\ ∀(j:Nat) u,cs[j]?=some u->W.cell? ⟨b,off+i*size+j,none⟩=some u
theorem Lst.below {α:Type} {W W':World} {B size:Nat} {R R':α->List Value->Prop} {A:Option Addr} {l:List α} (h:Lst W B size R A l) (hb:Below B W W') (hR: ∀a cs,R a cs->R' a cs):Lst W' B size R' A l:=fun i a ha=>by
 obtain⟨b,off,cs,e,hlt,hr,hl,hc⟩:=h i a ha
 exact⟨b,off,cs,e,hlt,hR _ _ hr,hl,fun j u hu=>(hb.cell (by exact hlt)).trans (hc j u hu)⟩
theorem Lst.more {α:Type} {W:World} {B B' size:Nat} {R R':α->List Value->Prop} {A:Option Addr} {l:List α} (h:Lst W B size R A l) (hb:B<=B') (hR: ∀a cs,R a cs->R' a cs):Lst W B' size R' A l:=fun i a ha=>by
 obtain⟨b,off,cs,e,hlt,hr,hl,hc⟩:=h i a ha;exact⟨b,off,cs,e,by omega,hR _ _ hr,hl,hc⟩
theorem Lst.nil {α:Type} {W:World} {B size:Nat} {R:α->List Value->Prop} {A:Option Addr}:Lst W B size R A []:=fun i a ha=>by simp at ha
def PropC (W:World) (B:Nat) (p:Gr.P) (cs:List Value):Prop:=
 ∃An cn At ct,cs=[ST p.key,.int .i64 p.val.kind,.int .i64 p.val.num,ST p.val.text,.slice An p.val.nums.length cn,.slice At p.val.texts.length ct]/\Reads W B 1 An p.val.nums.length (p.val.nums.map I64)/\Reads W B 1 At p.val.texts.length (p.val.texts.map ST)
def NodeC (W:World) (B:Nat) (n:Gr.N) (cs:List Value):Prop:=
 ∃Al cl Ap cp,cs=[.int .i64 n.id,.slice Al n.labels.length cl,.slice Ap n.props.length cp]/\Reads W B 1 Al n.labels.length (n.labels.map ST)/\Lst W B 6 (PropC W B) Ap n.props
def RelC (W:World) (B:Nat) (r:Gr.R) (cs:List Value):Prop:=
 ∃Ap cp,cs=[.int .i64 r.id,ST r.type,.int .i64 r.src,.int .i64 r.dst,.slice Ap r.props.length cp]/\Lst W B 6 (PropC W B) Ap r.props
theorem PropC.below {W W':World} {B:Nat} (hb:Below B W W') (p:Gr.P) (cs:List Value) (h:PropC W B p cs):PropC W' B p cs:=by
 obtain⟨An,cn,At,ct,e,h1,h2⟩:=h;exact⟨An,cn,At,ct,e,h1.below hb,h2.below hb⟩
theorem NodeC.below {W W':World} {B:Nat} (hb:Below B W W') (n:Gr.N) (cs:List Value) (h:NodeC W B n cs):NodeC W' B n cs:=by
 obtain⟨Al,cl,Ap,cp,e,h1,h2⟩:=h
 exact⟨Al,cl,Ap,cp,e,h1.below hb,h2.below hb (PropC.below hb)⟩
theorem RelC.below {W W':World} {B:Nat} (hb:Below B W W') (r:Gr.R) (cs:List Value) (h:RelC W B r cs):RelC W' B r cs:=by
 obtain⟨Ap,cp,e,h2⟩:=h;exact⟨Ap,cp,e,h2.below hb (PropC.below hb)⟩
theorem PropC.more {W:World} {B B':Nat} (hb:B<=B') (p:Gr.P) (cs:List Value) (h:PropC W B p cs):PropC W B' p cs:=by
 obtain⟨An,cn,At,ct,e,h1,h2⟩:=h;exact⟨An,cn,At,ct,e,h1.more hb,h2.more hb⟩
theorem NodeC.more {W:World} {B B':Nat} (hb:B<=B') (n:Gr.N) (cs:List Value) (h:NodeC W B n cs):NodeC W B' n cs:=by
 obtain⟨Al,cl,Ap,cp,e,h1,h2⟩:=h
 exact⟨Al,cl,Ap,cp,e,h1.more hb,h2.more hb (PropC.more hb)⟩
theorem RelC.more {W:World} {B B':Nat} (hb:B<=B') (r:Gr.R) (cs:List Value) (h:RelC W B r cs):RelC W B' r cs:=by
 obtain⟨Ap,cp,e,h2⟩:=h;exact⟨Ap,cp,e,h2.more hb (PropC.more hb)⟩
structure POk (p:Gr.P):Prop where
 key:p.key.length<=1073741824
 val:VOk p.val
structure NOk (n:Gr.N):Prop where
 id:Cel.In64 n.id
 ll:n.labels.length<=1073741824
 ls: ∀l∈n.labels,l.length<=1073741824
 pl:n.props.length<=1073741824
 ps: ∀p∈n.props,POk p
structure ROk (r:Gr.R):Prop where
 id:Cel.In64 r.id
 tl:r.type.length<=1073741824
 src:Cel.In64 r.src
 dst:Cel.In64 r.dst
 pl:r.props.length<=1073741824
 ps: ∀p∈r.props,POk p
structure GOk (g:Gr.G):Prop where
 nl:g.nodes.length<=1073741824
 ns: ∀n∈g.nodes,NOk n
 rl:g.rels.length<=1073741824
 rs: ∀r∈g.rels,ROk r
structure GIn (W:World) (B:Nat) (u:Value) (g:Gr.G):Prop where
 ex: ∃An cn Ar cr,u=.agg #[.slice An g.nodes.length cn,.slice Ar g.rels.length cr]/\Lst W B 3 (NodeC W B) An g.nodes/\Lst W B 5 (RelC W B) Ar g.rels
 ok:GOk g
theorem GIn.below {W W':World} {B:Nat} {u:Value} {g:Gr.G} (h:GIn W B u g) (hb:Below B W W'):GIn W' B u g:=by
 obtain⟨An,cn,Ar,cr,e,h1,h2⟩:=h.ex
 exact⟨⟨An,cn,Ar,cr,e,h1.below hb (NodeC.below hb),h2.below hb (RelC.below hb)⟩,h.ok⟩
theorem GIn.more {W:World} {B B':Nat} {u:Value} {g:Gr.G} (h:GIn W B u g) (hb:B<=B'):GIn W B' u g:=by
 obtain⟨An,cn,Ar,cr,e,h1,h2⟩:=h.ex
 exact⟨⟨An,cn,Ar,cr,e,h1.more hb (NodeC.more hb),h2.more hb (RelC.more hb)⟩,h.ok⟩
end Go.Proofs.YtanlehkalkafdaaGreatDoor
