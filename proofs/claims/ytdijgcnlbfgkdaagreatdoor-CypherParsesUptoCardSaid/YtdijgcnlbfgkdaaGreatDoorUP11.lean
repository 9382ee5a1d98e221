/- Lemmas. -/
import Derived.Test.YtdijgcnlbfgkdaaGreatDoorUP10
import Derived.RangeFuncNested
import Derived.RangeFuncBound
import Derived.RangeFuncCalls
import Derived.RangeFuncLeaves
import Derived.Shelf.Abstract
import Derived.Shelf.RegionOpen
import Derived.OwnWalkIn
import Derived.TacticsInMore
import Derived.LoopNIn
import Derived.LoopIn
set_option maxHeartbeats 64000000
set_option maxRecDepth 1000000
set_option linter.all false
namespace Go.Proofs.YtdijgcnlbfgkdaaGreatDoor
open Go.RowKit Go.Proofs.Tryz
def ajA (R:Lex.iG) (i:Nat): ∃(v0:Int) (v1:ByteArray) (v2 v3 v4 v5:Int),kC R i=.agg #[.int .i64 v0,.string v1,.int .i64 v2,.int .i64 v3,.int .i64 v4,.int .i64 v5]:=by
 cases R<;>exact⟨_,_,_,_,_,_,rfl⟩
def ajB: ∀c:Fin 256,Lib.contains [40,41,123,125,91,93,58,44,59,45] (Utf8.encode (wrap32 (c.val:Int))).data.toList=decide (UInt8.ofNat c.val∈Lex.MARKS):=by decide+kernel
def ajC (c:UInt8):Lib.contains [40,41,123,125,91,93,58,44,59,45] (Utf8.encode (wrap32 (c.toNat:Int))).data.toList=decide (c∈Lex.MARKS):=by
 have:=ajB ⟨c.toNat,an0 c⟩;simp only[aoU]at this;exact this
def ajD (c:UInt8) (w:World) (hL:Laid w):
  Calls prog 138 #[.string ⟨#[40,41,123,125,91,93,58,44,59,45]⟩,.string (Utf8.encode (wrap32 (c.toNat:Int)))] w fun e w'=>e=.returned (.bool (decide (c∈Lex.MARKS)))/\w=w':=by
 obtain⟨m,hm⟩:=hL.max;refine(Tryz.strings_Contains _ _ m w (by decide) hm).mono fun e w' ⟨he,hw⟩=>⟨?_,hw.symm⟩
 rw[he,<-ajC c]
namespace Lex
def behind (r:List UInt8):UInt8:=r.head?.getD 0
def UN (r:List UInt8):r.head?.any Num.aJ=Num.aJ (behind r):=by
 cases r with
 |nil=>decide
 |cons a r=>rfl
def abG (r:List UInt8):r.head?=some 62↔behind r=62:=by
 cases r with
 |nil=>simp[behind]
 |cons a r=>simp[behind]
def abH {c:UInt8} (h:Num.aJ c=true):c≠39/\isLet c=false/\c≠45:=by
 have: ∀c:Fin 256,Num.aJ (UInt8.ofNat c.val)=true->UInt8.ofNat c.val≠39/\isLet (UInt8.ofNat c.val)=false/\UInt8.ofNat c.val≠45:=by decide+kernel
 have:=this ⟨c.toNat,an0 c⟩;simp only[aoU]at this;exact this h
def ajE {c:UInt8} (h:isLet c=true):c≠39:=by
 rintro rfl;exact absurd h (by decide)
def abI {c:UInt8} (r:List UInt8) (h:isLet c=true):tok1 (c :: r)=.tok 1 ((c :: r).take (run dh (c :: r))) 0 (run dh (c :: r)):=by
 simp only[tok1];rw[aer (ajE h),aeu h]
def ajF {c:UInt8} (r:List UInt8) (h:Num.aJ c=true):tok1 (c :: r)=nY ((c :: r).take (1+run iY r)):=by
 simp only[tok1];rw[aer (abH h).1,aer (by rw[(abH h).2.1];decide),aeu (.inl h)]
def ajG (r:List UInt8) (h:Num.aJ (behind r)=true):tok1 (45 :: r)=nY ((45 :: r).take (1+run iY r)):=by
 simp only[tok1];rw[aer (by decide),aer (by decide),aeu (.inr ⟨trivial,by rw[UN];exact h⟩)]
def abJ (r:List UInt8):tok1 (39 :: r)=fG (r.length+1) r 1 []:=by
 simp only[tok1,anN]
def ajH (r:List UInt8) (h:behind r=62):tok1 (45 :: r)=.tok 5 [45,62] 0 2:=by
 simp only[tok1];have hd:Num.aJ (behind r)=false:=by rw[h];decide
 rw[aer (by decide),aer (by decide),aer,aeu ⟨trivial,(abG r).2 h⟩]
 rintro(h1|⟨_,h1⟩)
 ·exact absurd h1 (by decide)
 rw[UN,hd]at h1;cases h1
def ajI (r:List UInt8) (h1:Num.aJ (behind r)=false) (h2:behind r≠62):tok1 (45 :: r)=.tok 5 [45] 0 1:=by
 simp only[tok1];rw[aer (by decide),aer (by decide),aer,aer,aeu (by decide)]
 ·rintro⟨_,h⟩;exact h2 ((abG r).1 h)
 rintro(h|⟨_,h⟩)
 ·exact absurd h (by decide)
 rw[UN,h1]at h;cases h
def abK {c:UInt8} (r:List UInt8) (h1:isLet c=false) (h2:Num.aJ c=false) (h3:c≠39) (h4:c≠45):tok1 (c :: r)=if c∈MARKS then .tok 5 [c] 0 1 else .err 0 240:=by
 simp only[tok1];rw[aer h3,aer (by rw[h1];decide),aer,aer (fun h=>h4 h.1)]
 rintro(h|h)
 ·rw[h2]at h;cases h
 exact h4 h.1
end Lex
def next_any (s:ByteArray) (i:Nat) (w:World) (hs:s.size<=1073741823) (hi:i<s.size) (hL:Laid w):
  Calls prog 85 #[.string s,.int .i64 i] w (xZ (Lex.tok1 (s.data.toList.drop i)) i w):=by
 have hlen:=aof s;have hdrop:=jm hi;obtain⟨c,hc⟩:=aj (s[i]'hi);obtain⟨r,hr⟩:=aj (s.data.toList.drop (i+1));rw[hc,hr]at hdrop;have hrl:r.length=s.size -(i+1):=by rw[<-hr,ae1,hlen]
 obtain⟨bh,Jm⟩:=aj (Lex.behind r);have hii:(i:Int)<s.size:=by omega
 have h1i:(i:Int)<=1073741823:=by omega
 obtain⟨R,hR⟩:=aj (Lex.tok1 (s.data.toList.drop i));obtain⟨v0,v1,v2,v3,v4,v5,hv⟩:=ajA R i;have hword:=fun(W:World)=>aiT s i W (by omega) (by omega)
 have hnum:=fun(W:World) (hb:Below w.heap.size w W)=>aiV s i W (by omega) hi (hL.below hb)
 have WI:=fun(W:World)=>ajz s i W hs hi
 rw[hdrop]at hword hnum hR;rw[hr]at hnum WI;have hcon:=fun(W:World) (hb:Below w.heap.size w W)=>ajD c W (hL.below hb)
 have WJ:=ah hcon;have hlt:=fun(W:World)=>aaU c W
 have hdg:=fun(W:World)=>Ul c W
 have hdb:=fun(W:World)=>Ul bh W
 refine gq9 hword hnum WI hlt hdg hdb hR hv hdrop fun L9 vS Mc aA Jo En HR HV HDR=>?_;refine gq3 hrl Jm hr fun aZ rW HRR=>?_;rw[show Lex.tok1 (s.data.toList.drop i)=R by rw[hdrop];exact hR]
 clear hcon hword hnum WI hlt hdg hdb hR hv hdrop hrl hlen hL;go_enter func85,ntmps85
 go_upto_if 15 with(fail)
 go_cut [6] (fun v wx=>v=.int .u8 (bh.toNat:Int)/\w.alloc (.cells #[.int .i64 0,.string ⟨#[]⟩,.int .i64 0,.int .i64 0,.int .i64 0,.int .i64 0] 156)=wx)
 case first=>
  by_cases h1:i+1<s.size
  ·have WL:(i:Int)+1<s.size:=by omega
   have t1:decide (i+1<s.size)=true:=aei h1;have t1':decide ((i:Int)+1<s.size)=true:=aei WL
   have hb1:s[i+1]'h1=bh:=by
    have:=HRR.out;rw[jm h1]at this;rw[<-rW.out,<-this];rfl
   go_wp2;go_meet;exact⟨rfl,rfl⟩
  have t1:decide (i+1<s.size)=false:=dF h1;have t1':decide ((i:Int)+1<s.size)=false:=dF (by omega)
  have hb0:bh=0:=by
   have:=HRR.out;rw[sO (by omega)]at this
   rw[<-rW.out,<-this];rfl
  go_wp2;go_meet;exact⟨by rw[hb0];rfl,rfl⟩
 obtain⟨rfl,rfl⟩:=hcut;clear hr Jm;have hu:=o9;by_cases ha:Lex.isLet c=true
 ·have hl:=aA.out
  rw[ha]at hl;have fB:=ah hl;have hR1:=HR.out;rw[Lex.abI r ha]at hR1;have hw:=L9.out;rw[hR1]at hw;unfold xZ at hw;rw[HV.out]at hw;have HW:=ah hw;clear hl hR1 hw ha aA Jo En vS Mc L9;go_wp2_with fail;refine iq7 (fB.out _) ?_;go_wp2_with fail;refine mq7 (HW.out _) fun w2 hb=>?_;have hz2:=hb.size;have aP:=ah ((ak.new w 156 #[.int .i64 0,.string ⟨#[]⟩,.int .i64 0,.int .i64 0,.int .i64 0,.int .i64 0]).below hb (by simp))
  obtain⟨g0,g1,g2,g3,g4,g5,f0,f1,f2,f3,f4,f5⟩:=kU aP.out;have HB2:=ah (((aoa _ w).alloc (aej _) (.cells #[.int .i64 0,.string ⟨#[]⟩,.int .i64 0,.int .i64 0,.int .i64 0,.int .i64 0] 156)).trans (hb.mono (by simp)))
  clear hb;go_wp2;exact uq results85 rfl aP.out HB2.out HV.out
 have hl: ∀W:World,Calls prog 133 #[.int .u8 c.toNat] W fun e w'=>e=.returned (.bool false)/\W=w':=by
  have:=aA.out
  rwa [show Lex.isLet c=false from anF ha]at this
 have fB:=ah hl;clear hl;by_cases hd:Num.aJ c=true
 ·have hdc:=Jo.out
  rw[hd]at hdc;have HD1:=ah hdc;have hR1:=HR.out;rw[Lex.ajF r hd]at hR1;have hw:=vS.out;rw[hR1]at hw;unfold xZ at hw;rw[HV.out]at hw;have HW:=ah hw;clear hdc hR1 hw ha hd aA Jo En vS Mc L9;go_wp2_with fail;refine iq7 (fB.out _) ?_;go_wp2_with fail;refine iq7 (HD1.out _) ?_;go_wp2_with fail;refine mq7 (HW.out _ ((aoa _ w).alloc (aej _) _)) fun w2 hb=>?_;have hz2:=hb.size;have aP:=ah ((ak.new w 156 #[.int .i64 0,.string ⟨#[]⟩,.int .i64 0,.int .i64 0,.int .i64 0,.int .i64 0]).below hb (by simp))
  obtain⟨g0,g1,g2,g3,g4,g5,f0,f1,f2,f3,f4,f5⟩:=kU aP.out;have HB2:=ah (((aoa _ w).alloc (aej _) (.cells #[.int .i64 0,.string ⟨#[]⟩,.int .i64 0,.int .i64 0,.int .i64 0,.int .i64 0] 156)).trans (hb.mono (by simp)))
  clear hb;go_wp2;exact uq results85 rfl aP.out HB2.out HV.out
 have hdc: ∀W:World,Calls prog 135 #[.int .u8 c.toNat] W fun e w'=>e=.returned (.bool false)/\W=w':=by
  have:=Jo.out
  rwa [show Num.aJ c=false from anF hd]at this
 have HD1:=ah hdc;clear hdc;by_cases bQ:c=39
 ·subst bQ
  have hR1:=HR.out;rw[Lex.abJ r,aZ.out,show s.size -(i+1)+1=s.size - i by omega]at hR1
  have hw:=Mc.out;rw[hR1]at hw;unfold xZ at hw;rw[HV.out]at hw;have HW:=ah hw;clear hR1 hw ha hd aA Jo En vS Mc L9;go_wp2_with fail;refine iq7 (fB.out _) ?_;go_wp2_with fail;refine iq7 (HD1.out _) ?_;go_wp2_with fail;refine mq7 (HW.out _) fun w2 hb=>?_;have hz2:=hb.size;have aP:=ah ((ak.new w 156 #[.int .i64 0,.string ⟨#[]⟩,.int .i64 0,.int .i64 0,.int .i64 0,.int .i64 0]).below hb (by simp))
  obtain⟨g0,g1,g2,g3,g4,g5,f0,f1,f2,f3,f4,f5⟩:=kU aP.out;have HB2:=ah (((aoa _ w).alloc (aej _) (.cells #[.int .i64 0,.string ⟨#[]⟩,.int .i64 0,.int .i64 0,.int .i64 0,.int .i64 0] 156)).trans (hb.mono (by simp)))
  clear hb;go_wp2;exact uq results85 rfl aP.out HB2.out HV.out
 have t39:(((c.toNat:Nat):Int) == 39)=false:=bq (k:=39) rfl (aek.2 bQ);by_cases h45:c=45
 ·subst h45
  by_cases hbd:Num.aJ bh=true
  ·have hdb:=En.out
   rw[hbd]at hdb;have HD2:=ah hdb;have hR1:=HR.out;rw[Lex.ajG r (by rw[rW.out];exact hbd)]at hR1
   have hw:=vS.out;rw[hR1]at hw;unfold xZ at hw;rw[HV.out]at hw;have HW:=ah hw;clear hdb hR1 hw ha hd hbd aA Jo En vS Mc L9;go_wp2_with fail;refine iq7 (fB.out _) ?_;go_wp2_with fail;refine iq7 (HD1.out _) ?_;go_wp2_with fail;refine iq7 (HD2.out _) ?_;go_wp2_with fail;refine mq7 (HW.out _ ((aoa _ w).alloc (aej _) _)) fun w2 hb=>?_;have hz2:=hb.size;have aP:=ah ((ak.new w 156 #[.int .i64 0,.string ⟨#[]⟩,.int .i64 0,.int .i64 0,.int .i64 0,.int .i64 0]).below hb (by simp))
   obtain⟨g0,g1,g2,g3,g4,g5,f0,f1,f2,f3,f4,f5⟩:=kU aP.out;have HB2:=ah (((aoa _ w).alloc (aej _) (.cells #[.int .i64 0,.string ⟨#[]⟩,.int .i64 0,.int .i64 0,.int .i64 0,.int .i64 0] 156)).trans (hb.mono (by simp)))
   clear hb;go_wp2;exact uq results85 rfl aP.out HB2.out HV.out
  have hdb: ∀W:World,Calls prog 135 #[.int .u8 bh.toNat] W fun e w'=>e=.returned (.bool false)/\W=w':=by
   have:=En.out
   rwa [show Num.aJ bh=false from anF hbd]at this
  have HD2:=ah hdb;clear hdb;by_cases Jp:bh=62
  ·subst Jp
   have h2:i+2<=s.size:=by
    have h1:=aZ.out;cases r with
    |nil=>have:=rW.out;simp[Lex.behind]at this
    |cons a r=>rw[ae7]at h1;omega
   have h2i:(i:Int)+2<=s.size:=by omega
   have h2j:(0:Int)<=(i:Int)+2:=by omega
   have hR1:=HR.out;rw[Lex.ajH r rW.out]at hR1
   have ht:kC R i=.agg #[.int .i64 5,.string ⟨#[45,62]⟩,.int .i64 0,.int .i64 i,.int .i64 ((i:Int)+2),.int .i64 0]:=by
    rw[<-hR1];rfl
   have HT:=ah ht
   have hzz:s.extract i (i+2)=⟨#[45,62]⟩:=by
    apply aho
    apply Array.ext'
    rw[DC,HDR.out];cases r with
    |nil=>have:=rW.out;simp[Lex.behind]at this
    |cons a r=>
     have:a=62:=rW.out;rw[this];rfl
   clear hR1 ht ha hd hbd;go_wp2_with fail;refine iq7 (fB.out _) ?_;go_wp2_with fail;refine iq7 (HD1.out _) ?_;go_wp2_with fail;refine iq7 (HD2.out _) ?_;go_wp2;exact PX results85 rfl (ak.new _ _ _) ⟨by rw[HT.out],(aoa _ w).alloc (aej _) _⟩
  have t62:(((bh.toNat:Nat):Int) == 62)=false:=bq (k:=62) rfl (aek.2 Jp);have hR1:=HR.out;rw[Lex.ajI r (by rw[rW.out];exact anF hbd) (by rw[rW.out];exact Jp)]at hR1
  have ht:kC R i=.agg #[.int .i64 5,.string ⟨#[45]⟩,.int .i64 0,.int .i64 i,.int .i64 ((i:Int)+1),.int .i64 0]:=by
   rw[<-hR1];rfl
  have HT:=ah ht;have hcon:=WJ.out;rw[show decide ((45:UInt8)∈Lex.MARKS)=true by decide,show wrap32 (((45:UInt8).toNat:Nat):Int)=45 by decide+kernel]at hcon
  have HC:=ah hcon;have WL:(i:Int)+1<=s.size:=by omega
  have hzz:s.extract i (i+1)=⟨#[45]⟩:=by
   apply aho
   apply Array.ext'
   rw[DC,HDR.out];rfl
  clear hR1 ht ha hd hbd hcon;go_wp2_with fail;refine iq7 (fB.out _) ?_;go_wp2_with fail;refine iq7 (HD1.out _) ?_;go_wp2_with fail;refine iq7 (HD2.out _) ?_;go_wp2_with fail;refine iq7 (HC.out _ ((aoa _ w).alloc (aej _) _)) ?_;go_wp2;exact PX results85 rfl (ak.new _ _ _) ⟨by rw[HT.out],(aoa _ w).alloc (aej _) _⟩
 have t45:(((c.toNat:Nat):Int) == 45)=false:=bq (k:=45) rfl (aek.2 h45);by_cases hm:c∈Lex.MARKS
 ·have hR1:=HR.out
  rw[Lex.abK r (anF ha) (anF hd) bQ h45,aeu hm]at hR1;have hcon:=WJ.out;rw[aei hm]at hcon;have HC:=ah hcon
  have ht:kC R i=.agg #[.int .i64 5,.string ⟨#[c]⟩,.int .i64 0,.int .i64 i,.int .i64 ((i:Int)+1),.int .i64 0]:=by
   rw[<-hR1];rfl
  have HT:=ah ht;have WL:(i:Int)+1<=s.size:=by omega
  have hzz:s.extract i (i+1)=⟨#[c]⟩:=by
   apply aho
   apply Array.ext'
   rw[DC,HDR.out];rfl
  clear hR1 ht ha hd hm hcon bQ h45;go_wp2_with fail;refine iq7 (fB.out _) ?_;go_wp2_with fail;refine iq7 (HD1.out _) ?_;go_wp2_with fail;refine iq7 (HC.out _ ((aoa _ w).alloc (aej _) _)) ?_;go_wp2;exact PX results85 rfl (ak.new _ _ _) ⟨by rw[HT.out],(aoa _ w).alloc (aej _) _⟩
 have hR1:=HR.out;rw[Lex.abK r (anF ha) (anF hd) bQ h45,aer hm]at hR1;have hcon:=WJ.out;rw[dF hm]at hcon;have HC:=ah hcon
 have ht:kC R i=.agg #[.int .i64 0,.string ⟨#[]⟩,.int .i64 0,.int .i64 i,.int .i64 0,.int .i64 240]:=by
  rw[<-hR1,Qg,agw];rfl
 have HT:=ah ht;clear hR1 ht ha hd hm hcon bQ h45;go_wp2_with fail;refine iq7 (fB.out _) ?_;go_wp2_with fail;refine iq7 (HD1.out _) ?_;go_wp2_with fail;refine iq7 (HC.out _ ((aoa _ w).alloc (aej _) _)) ?_;go_wp2_with fail;refine mq7 (IE (i:Int) 240 _) fun w2 hb=>?_;have hz2:=hb.size;have aP:=ah ((ak.new w 156 #[.int .i64 0,.string ⟨#[]⟩,.int .i64 0,.int .i64 0,.int .i64 0,.int .i64 0]).below hb (by simp))
 obtain⟨g0,g1,g2,g3,g4,g5,f0,f1,f2,f3,f4,f5⟩:=kU aP.out;have HB2:=ah (((aoa _ w).alloc (aej _) (.cells #[.int .i64 0,.string ⟨#[]⟩,.int .i64 0,.int .i64 0,.int .i64 0,.int .i64 0] 156)).trans (hb.mono (by simp)))
 clear hb;go_wp2;exact uq results85 rfl aP.out HB2.out HT.out
end Go.Proofs.YtdijgcnlbfgkdaaGreatDoor
namespace Go.Proofs.YtdijgcnlbfgkdaaGreatDoor
open Go.RowKit Go.Proofs.Tryz
structure cO (T:TypeId) (n₁:Nat) (A B:World):Prop where
 os:B.os=A.os
 tape:B.tape=A.tape
 output:B.output=A.output
 size:A.heap.size<=B.heap.size
 low: ∀k,k<n₁->k<A.heap.size->B.heap[k]?=A.heap[k]?
 block: ∀(k:Nat) (o:Obj),A.heap[k]?=some o->(∀r,o≠ .loop r)->(∀c fz,o≠ .cells c T fz)->B.heap[k]?=some o
section
variable {T n₁:Nat} {A B C:World}
def cO.refl (T n₁:Nat) (A:World):cO T n₁ A A:=⟨rfl,rfl,rfl,aej _,fun _ _ _=>rfl,fun _ _ h _ _=>h⟩
def cO.trans (h:cO T n₁ A B) (k:cO T n₁ B C):cO T n₁ A C:=
 ⟨k.os.trans h.os,k.tape.trans h.tape,k.output.trans h.output,aep h.size k.size,fun i hi hA=>(k.low i hi (afn hA h.size)).trans (h.low i hi hA),fun i o ho h1 h2=>k.block i o (h.block i o ho h1 h2) h1 h2⟩
def cO.of_below (h:Below A.heap.size A B):cO T n₁ A B:=
 ⟨h.os,h.tape,h.output,h.size,fun k _ hk=>h.block k hk,fun k o ho _ _=>(h.block k (afb.1 ho).1).trans ho⟩
def cO.alloc (h:cO T n₁ A B) (o:Obj):cO T n₁ A (B.alloc o):=h.trans (.of_below ((aoa _ B).alloc (aej _) o))
def cO.yg {g:Nat} {c:Array Value} {fz:Nat×Nat} (h:A.grownBy B (some g)) (hg:A.heap[g]?=some (.cells c T fz)) (hn:n₁<=g):cO T n₁ A B:=
 ⟨h.os,h.tape,h.output,h.size,fun k hk hA=>h.block k hA (by simp;omega),fun k o ho _ h2=>(h.block k (afb.1 ho).1 (fun e=>by cases e;rw[hg]at ho;exact h2 c fz (aeM ho).symm)).trans ho⟩
def cO.putObj {l:Nat} {r:Loop} (r':Loop) (h:A.heap[l]?=some (.loop r)) (hn:n₁<=l):cO T n₁ A (A.putObj l (.loop r')):=
 ⟨rfl,rfl,rfl,by simp[World.putObj],fun k hk _=>ar6 (by omega),fun k o ho h1 _=>by
  rw[ar6 (fun e=>by subst e;rw[h]at ho;exact h1 r (aeM ho).symm)]
  exact ho⟩
def cO.cell (h:cO T n₁ A B) {b:Nat} {c:Array Value} {t:TypeId} {fz:Nat×Nat} (hb:A.heap[b]?=some (.cells c t fz)) (ht:t≠T):B.heap[b]?=some (.cells c t fz):=
 h.block b _ hb (fun r e=>by cases e) (fun c' fz' e=>by cases e;exact ht rfl)
def cO.below {m:Nat} (h:cO T n₁ A B) (hm:m<=n₁) (hA:m<=A.heap.size):Below m A B:=⟨h.os,h.tape,h.output,h.size,fun k hk=>h.low k (by omega) (by omega)⟩
def cO.own (h:cO T n₁ A B) {base size n:Nat} {e:TypeId} {v:Value} {xs:List Value} (ho:A.ownsRow base e size v n xs) (ht:e≠T):B.ownsRow base e size v n xs:=by
 refine⟨ho.1, ?_⟩
 rcases ho.2 with hn|⟨g,cap,cur,rfl,hb,hg,rest⟩
 ·exact .inl hn
 exact .inr ⟨g,cap,cur,rfl,hb,h.cell hg ht,rest⟩
def cO.blk (h:cO T n₁ A B) {b:Nat} {c:Array Value} {t:TypeId} (hb:ak A b t c) (ht:t≠T):ak B b t c:=h.cell hb ht
end
structure ny (T:TypeId) (A B:World):Prop where
 size:A.heap.size<=B.heap.size
 same: ∀(k:Nat) (c:Array Value) (fz:Nat×Nat),A.heap[k]?=some (Obj.cells c T fz)->B.heap[k]?=some (Obj.cells c T fz)
def ny.trans {T:TypeId} {A B C:World} (h:ny T A B) (k:ny T B C):ny T A C:=⟨aep h.size k.size,fun i c fz hi=>k.same i c fz (h.same i c fz hi)⟩
def ny.yg {T:TypeId} {A B:World} {row:Option Nat} (h:A.grownBy B row) (hr: ∀g c fz,row=some g->A.heap[g]?≠some (.cells c T fz)):ny T A B:=
 ⟨h.size,fun k c fz hk=>(h.block k (afb.1 hk).1 (fun e=>hr k c fz e.symm hk)).trans hk⟩
def ny.blk {T:TypeId} {A B:World} (h:ny T A B) {b:Nat} {c:Array Value} (hb:ak A b T c):ak B b T c:=h.same b c _ hb
def UO {α:Type} (P:Program) (T n₁ gf:Nat) (lb:Array Value) (encs:α->Array Value) (Pre:α->World->World->Prop) (Step:List α->α->Prop) (End:List α->Prop) (QS:World->Prop) (W1:World):Prop:=
 ∀(l:Nat) (J:List α->World->Prop) (Fin:World->Prop),(∀pre W,J pre W->QS W)->
  (∀pre A B,J pre A->cO T W1.heap.size A B->J pre B)->
  (∀pre x W0 W,J pre W0->cO T W1.heap.size W0 W->Pre x W0 W->Step pre x->YieldAt Fence.wide 7 P l (encs x) W fun e W'=>
   (e=.returned (.bool true)/\J (pre++[x]) W'/\ny T W W')\/(e=.returned (.bool false)/\Fin W'))->
  (∀pre W,J pre W->End pre->Fin W)->
  J [] W1->
  CallsIn Fence.wide 8 P gf (#[.func (.yield l) #[] #[]]++lb) W1 fun e W'=>(∃v,e=.returned v)/\Fin W'
def ajJ {α:Type} (B:Nat) (T:TypeId) (I:List α->World->Prop) (Ix:Code->World->Prop) (xs:List α) (W:World):Exit->Act->World->Prop
 |.normal,_,W'=>KeepsFrom B W W'/\ny T W W'/\I xs W'
 |.ret,_,W'=>KeepsFrom B W W'/\Ix .ret W'
 |.exit id,_,W'=>KeepsFrom B W W'/\Ix (.exit id) W'
 |.goto t,_,W'=>KeepsFrom B W W'/\Ix (.goto t) W'
 |.panic _,_,_=>False
 |.outgrown,_,_=>False
def UQ {P:Program} {f:FuncId} {fn:Func} {c:Code} {args:Array Value} {w:World} {R:Ending->World->Prop} (hf:P.funcs[f]?=some fn) (hb:fn.body=some c)
  (h:c.wp P (bodyPostM Fence.wide 9 P fn R) {tmps:=args++Array.replicate (fn.ntmps - args.size) undef,defers:=[]} w):Calls P f args w R:=
 as2.1 (callsIn_of_wp_marks (n:=9) hf hb trivial (ata.2 h))
def FN {V:World} {D b:Nat} {t:TypeId} {c:Array Value} {o:Obj} (hK:V.heap[D]?=some (.deferred (some []))) (h:ak V b t c):ak (V.putObj D o) b t c:=
 (ar6 (fun e=>by subst e;unfold ak at h;rw[hK]at h;cases h)).trans h
def ajK {V:World} {D:Nat} (hK:V.heap[D]?=some (.deferred (some []))): ∀(k:Nat) (c:Array Value) (t:TypeId) (fz:Nat×Nat),V.heap[k]?=some (Obj.cells c t fz)->(V.putObj D (.deferred none)).heap[k]?=some (Obj.cells c t fz):=fun k c t fz h=>
 (ar6 (fun e=>by subst e;rw[hK]at h;cases h)).trans h
def abL {V:World} {D base e size n:Nat} {v:Value} {xs:List Value} (hK:V.heap[D]?=some (.deferred (some []))) (h:V.ownsRow base e size v n xs):(V.putObj D (.deferred none)).ownsRow base e size v n xs:=by
 refine⟨h.1, ?_⟩
 rcases h.2 with hn|⟨g,cap,cur,rfl,hb,hg,rest⟩
 ·exact .inl hn
 exact .inr ⟨g,cap,cur,rfl,hb,ajK hK _ _ _ _ hg,rest⟩
def Qh {B:Nat} {A V:World} {D:Nat} {o:Obj} (h:Below B A V) (hD:B<=D):Below B A (V.putObj D o):=
 ⟨h.os,h.tape,h.output,by simpa[World.putObj] using h.size,fun k hk=>(ar6 (by omega)).trans (h.block k hk)⟩
def Qi {P:Program} {fn:Func} {tmps:Array Value} {R:Ending->World->Prop} {V:World} {D:Nat} {v:Value} (hK:V.heap[D]?=some (.deferred (some [])))
  (hr:(results fn tmps).run P (V.putObj D (.deferred none))=.ok v (V.putObj D (.deferred none))) (hR:R (.returned v) (V.putObj D (.deferred none))):
  bodyPostM Fence.wide 9 P fn R .ret {tmps:=tmps,defers:=[{target:=.collected D,args:= #[]}]} V:=
 ⟨by simp,.inl ⟨_,_,rfl,run_takeDeferred hK,⟨_,hr,hR⟩⟩⟩
end Go.Proofs.YtdijgcnlbfgkdaaGreatDoor
namespace Go.Proofs.YtdijgcnlbfgkdaaGreatDoor
open Go.RowKit Go.Proofs.Tryz
attribute [local go_sem] ar4
def tokA (t:Lex.Tok):Value:=.agg #[.int .i64 (t.kind:Int),.string ⟨t.text.toArray⟩,.int .i64 t.num,.int .i64 (t.pos:Int)]
abbrev LY:=Lex.Tok×Nat
def UR (x:LY):Array Value:= #[tokA x.1,.int .i64 (x.2:Int)]
namespace Lex
def items (x:List Tok×Option (Nat×Nat)):List LY:=
 x.1.map (fun t=>(t,0))++match x.2 with
  |none=> []
  |some (p,e)=> [(⟨0,[],0,p⟩,e)]
def ajL:items ([],none)=[]:=rfl
def ajM (t:Tok) (x:List Tok×Option (Nat×Nat)):items (t :: x.1,x.2)=(t,0) :: items x:=rfl
end Lex
def Qj (l:List UInt8) (pre:List LY) (x:LY):Prop:=pre++[x] <+: Lex.items (Lex.read l)
def UU (l:List UInt8) (pre:List LY):Prop:=pre=Lex.items (Lex.read l)
def ajN (s:ByteArray) (hs:s.size<=1073741823) (n₁ Bt:Nat) (hBt:Bt<n₁) (W1:World) (hn:n₁<=W1.heap.size):
  UO prog 156 n₁ 83 #[.pointer (some ⟨Bt,0,none⟩)] UR (fun _ _ _=>True) (Qj s.data.toList) (UU s.data.toList) (fun W=>W.cell? ⟨Bt,0,none⟩=some (.string s)/\Laid W) W1:=by
 intro l J Fin hAux hJ hY Md h0;refine as2.2 ?_;refine gq4 hAux hJ hY Md fun HX HJ HY HE=>?_;have hc:=(hAux _ _ h0).1;have QT:=ah h0;clear hJ hY Md hAux h0;by_cases hbig:16777216<s.size
 ·have hd:decide (16777216<s.size)=true:=aei hbig
  have hd':decide ((16777216:Int)<s.size)=true:=aei (by omega)
  have hit:Lex.items (Lex.read s.data.toList)=[(⟨0,[],0,0⟩,1)]:=by
   unfold Lex.read;rw[aeu (by rw[<-aof];exact hbig)]
   rfl
  obtain⟨fn,tmps,assign,body,hy,hR⟩:=HY.out [] (⟨0,[],0,0⟩,1) W1 W1 QT.out (cO.refl _ _ _) trivial (by unfold Qj;rw[hit];exact List.prefix_refl _)
  have hy':(Instr.yield l #[.agg #[.int .i64 0,.string ⟨#[]⟩,.int .i64 0,.int .i64 0],.int .i64 1]).run prog W1=.ok (.round l fn tmps assign body) W1:=hy;have qQ:=ah hR;have HIT:=ah hit;clear hit hR hy;go_enter func83,ntmps83
  go_upto_region 1 with(fail)
  refine(ata (n:=8)).1 ?_
  gi_wp2
  refine qQ.mono ?_;rintro e W' (⟨rfl,hj,hk⟩|⟨rfl,hf⟩)
  ·gi_wp2
   go_wp2;refine arW (asR rfl _ _ _) rfl ?_;exact⟨⟨_,rfl⟩,HE.out _ _ hj HIT.symm⟩
  gi_wp2
  go_wp2;refine arW (asR rfl _ _ _) rfl ?_;exact⟨⟨_,rfl⟩,hf⟩
 have hd:decide (16777216<s.size)=false:=dF hbig;have hd':decide ((16777216:Int)<s.size)=false:=dF (by omega)
 have hsm:s.size<=16777216:=by omega
 have hrd:Lex.read s.data.toList=Lex.scan (s.size+1) (s.data.toList.drop (Lex.gap false s.data.toList)) (Lex.gap false s.data.toList):=by
  unfold Lex.read;rw[aer (by rw[<-aof];exact hbig)]
  unfold Lex.body;rw[<-aof,agO]
 have hsk:=fun(i:Nat) (hi:i<=s.size) (W:World)=>aiM s i W (by omega) hi
 have hgl:=Lex.Fz false s.data.toList;rw[<-aof]at hgl;have hs0:=hsk 0 (by omega)
 rw[afW,agO]at hs0;obtain⟨a0,ha0⟩:=aj (Lex.gap false s.data.toList);rw[ha0]at hs0 hgl hrd;have jc:=ah (show∀W:World,Calls prog 84 #[.string s,.int .i64 0] W fun e w'=>e=.returned (.int .i64 (a0:Int))/\W=w' from hs0)
 have HSK:=ah hsk;have QU:=ah hrd;clear hsk hs0 hrd ha0 hbig;go_enter func83,ntmps83;go_wp2_with fail;refine iq7 (jc.out _) ?_;go_wp2_with fail
 go_loopg [3] s.size (fun g x wr=> ∃(k:Nat) (pre:List LY),x=.int .i64 k/\k<=s.size/\s.size - k<=g/\J pre wr/\Lex.items (Lex.read s.data.toList)=pre++Lex.items (Lex.scan (g+1) (s.data.toList.drop k) k)/\W1.heap.size<=wr.heap.size)
 case atStart=>exact⟨a0,[],rfl,hgl,by omega,QT.out,by rw[QU.out];rfl,aej _⟩
 obtain⟨k,pre,rfl,hle,hgk,hj,hit,hsz⟩:=hrel;obtain⟨hcb,hlaid⟩:=HX.out _ _ hj;refine gq3 hj hit hlaid fun Ag HI HL=>?_;have hki:(k:Int)<=16777216:=by omega
 clear hj hit hlaid hc;by_cases hlt:k<s.size
 ·have yF:(k:Int)<s.size:=by omega
  have t1:decide (k<s.size)=true:=aei hlt;have hnx:=next_any s k wr hs hlt HL.out
  have hne:s.data.toList.drop k≠ []:=by
   rw[jm hlt];simp
  obtain⟨R,hR⟩:=aj (Lex.tok1 (s.data.toList.drop k));rw[hR]at hnx;obtain⟨g,rfl⟩: ∃g,gk=g+1:=⟨gk - 1,by omega⟩
  have hu:=o9;cases R with
  |tok kd tx nm n=>
   have hbd:=Lex.Px hR;rw[ae1,<-aof]at hbd;have hsc:=Lex.FB (k:=g+1) (i:=k) hR rfl;obtain⟨m,hm⟩:=aj (k+n);obtain⟨K',hK'⟩:=aj (m+Lex.gap false (s.data.toList.drop m));have Me:m<=s.size:=by omega
   have hKm:m<=K':=by omega
   have WM:K'<=s.size:=by
    have:=Lex.Fz false (s.data.toList.drop m);rw[ae1,<-aof]at this;omega
   have hit2:Lex.items (Lex.read s.data.toList)=(pre++[(⟨kd,tx,nm,k⟩,0)])++Lex.items (Lex.scan (g+1) (s.data.toList.drop K') K'):=by
    rw[HI.out,hsc,Lex.ajM,ahu,ahu,hm,show k+(n+Lex.gap false (s.data.toList.drop m))=K' by omega,hK',afu]
    rfl
   have WO:=HSK.out m Me;rw[hK']at WO
   have MB:Calls prog 85 #[.string s,.int .i64 k] wr fun e w'=>e=.returned (.agg #[.int .i64 (kd:Int),.string ⟨tx.toArray⟩,.int .i64 nm,.int .i64 (k:Int),.int .i64 (m:Int),.int .i64 0])/\Below wr.heap.size wr w':=by
    rw[<-hm];exact hnx
   refine gq3 MB hit2 WO fun oC HI2 jT=>?_;have hm1:k<m:=by omega
   clear hnx MB hR hbd hsc hm hK' hit2 WO hne;go_wp2_with fail;refine mq8 oC fun w2 hb=>?_;have WQ:=KF hcb;have hcb2:w2.cell? ⟨Bt,0,none⟩=some (.string s):=(hb.cell WQ).trans hcb;have hz2:=hb.size;have hsame:=ah ((cO.of_below (T:=156) (n₁:=W1.heap.size) hb).alloc (.cells #[.int .i64 kd,.string ⟨tx.toArray⟩,.int .i64 nm,.int .i64 k,.int .i64 m,.int .i64 0] 156));have hblk:=ah (ak.new w2 156 #[.int .i64 kd,.string ⟨tx.toArray⟩,.int .i64 nm,.int .i64 k,.int .i64 m,.int .i64 0]);obtain⟨fn,tmps,assign,body,hy,hR⟩:=HY.out pre (⟨kd,tx,nm,k⟩,0) wr (w2.alloc (.cells #[.int .i64 kd,.string ⟨tx.toArray⟩,.int .i64 nm,.int .i64 k,.int .i64 m,.int .i64 0] 156)) Ag.out hsame.out trivial (by unfold Qj;rw[HI2.out];exact List.prefix_append _ _)
   have hy':(Instr.yield l #[.agg #[.int .i64 kd,.string ⟨tx.toArray⟩,.int .i64 nm,.int .i64 k],.int .i64 0]).run prog (w2.alloc (.cells #[.int .i64 kd,.string ⟨tx.toArray⟩,.int .i64 nm,.int .i64 k,.int .i64 m,.int .i64 0] 156))=.ok (.round l fn tmps assign body) (w2.alloc (.cells #[.int .i64 kd,.string ⟨tx.toArray⟩,.int .i64 nm,.int .i64 k,.int .i64 m,.int .i64 0] 156)):=hy;have qQ:=ah hR;clear hy hR hb
   go_upto_region 5 with(fail)
   refine(ata (n:=8)).1 ?_
   gi_wp2
   refine qQ.mono ?_;rintro e W' (⟨rfl,hj,hk⟩|⟨rfl,hf⟩)
   ·have hbk:=hk.blk hblk.out
    obtain⟨g0,g1,g2,g3,g4,g5,f0,f1,f2,f3,f4,f5⟩:=kU hbk;have hcw:=(HX.out _ _ hj).1;have Gs:=ah hj;have hzw:=hk.size;rw[asB]at hzw;clear hk hbk hj
    gi_wp2
    go_wp2_with fail;refine iq7 (jT.out _) ?_;go_wp2
    go_roundg g
    case measure=>omega
    exact⟨K',_,rfl,WM,by omega,Gs.out,HI2.out,by omega⟩
   gi_wp2
   go_wp2;refine arW (asR rfl _ _ _) rfl ?_;exact⟨⟨_,rfl⟩,hf⟩
  |err o e=>
   obtain⟨he,ho⟩:=Lex.Py hne hR;have hsc:=Lex.FC (k:=g+1) (i:=k) hne hR;obtain⟨m,hm⟩:=aj (k+o)
   have hit2:Lex.items (Lex.read s.data.toList)=pre++[(⟨0,[],0,m⟩,e)]:=by
    rw[HI.out,hsc,hm];rfl
   have MB:Calls prog 85 #[.string s,.int .i64 k] wr fun e' w'=>e'=.returned (.agg #[.int .i64 0,.string ⟨#[]⟩,.int .i64 0,.int .i64 (m:Int),.int .i64 0,.int .i64 (e:Int)])/\Below wr.heap.size wr w':=by
    rw[<-hm];exact hnx
   have oC:=ah MB;have HI2:=ah hit2;have hen:((e:Int) !=0)=true:=by rw[afd];omega
   clear hnx MB hR hsc hm hit2 hne ho;go_wp2_with fail;refine oC.mono ?_;rintro e' w2 ⟨rfl,hb⟩;have WQ:=KF hcb;have hcb2:w2.cell? ⟨Bt,0,none⟩=some (.string s):=(hb.cell WQ).trans hcb;have hz2:=hb.size;have hsame:=ah ((cO.of_below (T:=156) (n₁:=W1.heap.size) hb).alloc (.cells #[.int .i64 0,.string ⟨#[]⟩,.int .i64 0,.int .i64 m,.int .i64 0,.int .i64 e] 156));have hblk:=ah (ak.new w2 156 #[.int .i64 0,.string ⟨#[]⟩,.int .i64 0,.int .i64 m,.int .i64 0,.int .i64 e]);obtain⟨fn,tmps,assign,body,hy,hR⟩:=HY.out pre (⟨0,[],0,m⟩,e) wr (w2.alloc (.cells #[.int .i64 0,.string ⟨#[]⟩,.int .i64 0,.int .i64 m,.int .i64 0,.int .i64 e] 156)) Ag.out hsame.out trivial (by unfold Qj;rw[HI2.out];exact List.prefix_refl _)
   have hy':(Instr.yield l #[.agg #[.int .i64 0,.string ⟨#[]⟩,.int .i64 0,.int .i64 m],.int .i64 e]).run prog (w2.alloc (.cells #[.int .i64 0,.string ⟨#[]⟩,.int .i64 0,.int .i64 m,.int .i64 0,.int .i64 e] 156))=.ok (.round l fn tmps assign body) (w2.alloc (.cells #[.int .i64 0,.string ⟨#[]⟩,.int .i64 0,.int .i64 m,.int .i64 0,.int .i64 e] 156)):=hy;have qQ:=ah hR;clear hy hR hb
   go_upto_region 5 with(fail)
   refine(ata (n:=8)).1 ?_
   gi_wp2
   refine qQ.mono ?_;rintro e' W' (⟨rfl,hj,hk⟩|⟨rfl,hf⟩)
   ·have hbk:=hk.blk hblk.out
    obtain⟨g0,g1,g2,g3,g4,g5,f0,f1,f2,f3,f4,f5⟩:=kU hbk;have Gs:=ah hj;clear hk hbk hj
    gi_wp2
    go_wp2;refine arW (asR rfl _ _ _) rfl ?_;exact⟨⟨_,rfl⟩,HE.out _ _ Gs.out HI2.symm⟩
   gi_wp2
   go_wp2;refine arW (asR rfl _ _ _) rfl ?_;exact⟨⟨_,rfl⟩,hf⟩
 have t1:decide (k<s.size)=false:=dF hlt
 have hend:UU s.data.toList pre:=by
  unfold UU;rw[HI.out,sO (by omega),Lex.aax,Lex.ajL,afy]
 have anP:=ah hend;clear hend;go_wp2
 go_end0
 exact⟨⟨_,rfl⟩,HE.out _ _ Ag.out anP.out⟩
end Go.Proofs.YtdijgcnlbfgkdaaGreatDoor
namespace Go.Proofs.YtdijgcnlbfgkdaaGreatDoor
open Go.RowKit Go.Proofs.Tryz
def ny.of_below {T:TypeId} {A B:World} (h:Below A.heap.size A B):ny T A B:=
 ⟨h.size,fun k c fz hk=>(h.block k (afb.1 hk).1).trans hk⟩
def UW {α:Type} {P:Program} (T:TypeId) {g:Operand} {ps:Array Tmp} {assign body:Code} {Q:Exit->Act->World->Prop} {a:Act} {w:World}
  {gf:Nat} {lb:Array Value} (hg:a.eval g=.func (.func gf) #[] lb) (eg: ∀args w,(callFunc gf args).run P w=.ok (.enter gf args) w)
  {encs:α->Array Value} (hps: ∀x,(encs x).size=ps.size) {Pre:α->World->World->Prop} {Step:List α->α->Prop} {End:List α->Prop} {QS:World->Prop}
  (a₁:α->World->Act) (w₁:α->World->World) (hw₁: ∀x W,Below W.heap.size W (w₁ x W))
  (anQ: ∀x W0 W l r r',Pre x W0 W->(w₁ x W).heap[l]?=some (.loop r)->Pre x W0 ((w₁ x W).putObj l (.loop r')))
  (hiter: ∀W1,Below w.heap.size w W1->w.heap.size<=W1.heap.size->UO P T w.heap.size gf lb encs Pre Step End QS W1)
  (I:List α->World->Prop) (Ix:Code->World->Prop) (hI: ∀pre A B,I pre A->cO T w.heap.size A B->I pre B) (hIx: ∀c A B,Ix c A->cO T w.heap.size A B->Ix c B) (hAux: ∀pre W,I pre W->QS W) (h0:I [] w)
  (hassign: ∀(l:Nat) (x:α) (W:World) (K:Act->World->Prop),K (a₁ x W) (w₁ x W)->
   assign.wpIn (Fence.wide.inRound l) 7 P (Exit.then K (fun _ _ _=>False)) {tmps:=(ps.zip (encs x)).foldl (fun t (p,v)=>t.setIfInBounds p v) a.tmps,defers:=[]} W)
  (hbody: ∀(l:Nat) (pre:List α) (x:α) (W0 Wa W:World),I pre W0->cO T w.heap.size W0 Wa->cO T w.heap.size Wa W->(∀(b:Nat) (t:TypeId) (c:Array Value),ak (w₁ x Wa) b t c->ak W b t c)->W.heap.size=(w₁ x Wa).heap.size->Pre x W0 W->Step pre x->w.heap.size<=l->w.heap.size<=W0.heap.size->
   body.wpIn (Fence.wide.inRound l) 7 P (ajJ w.heap.size T I Ix (pre++[x]) W) (a₁ x Wa) W)
  (hdone: ∀(D:Nat) (xs:List α) (W:World),w.heap.size<=D->End xs->I xs W->W.heap[D]?=some (.deferred (some []))->Q .normal {a with defers:={target:=.collected D,args:= #[]} :: a.defers} W)
  (hstop: ∀(D:Nat) (c:Code) (W:World),w.heap.size<=D->Ix c W->W.heap[D]?=some (.deferred (some []))->c.wpIn Fence.wide 9 P Q {a with defers:={target:=.collected D,args:= #[]} :: a.defers} W):
  (Code.rangeFunc g ps assign body).wpIn Fence.wide 9 P Q a w:=by
 refine wpIn_rangeFunc ?_;intro fn hfn;have hro:Fence.wide.round=none:=rfl;rw[hro];obtain⟨rec,hrec⟩: ∃rec:LoopState->Option Code->Loop,rec=fun st pe=>{state:=st,pending:=pe,fn,tmps:=a.tmps,params:=ps,assign,body,defers:=w.heap.size}:=⟨_,rfl⟩
 obtain⟨W1,hW1⟩:=aj ((w.alloc (.deferred (some []))).alloc (.loop (rec .ready none)))
 have hL1:W1.heap[w.heap.size+1]?=some (.loop (rec .ready none)):=by
  rw[<-hW1];have:=World.alloc_heap_new (w.alloc (.deferred (some []))) (.loop (rec .ready none));rwa [asB]at this
 have hK1:W1.heap[w.heap.size]?=some (.deferred (some [])):=by
  rw[<-hW1];exact(asU _ _ _ (by simp)).trans (World.alloc_heap_new w _)
 have hb1:Below w.heap.size w W1:=by
  rw[<-hW1];exact((aoa _ w).alloc (aej _) _).alloc (by simp) _
 have hs1:W1.heap.size=w.heap.size+2:=by rw[<-hW1];simp
 have hI1:I [] W1:=hI _ _ _ h0 (.of_below hb1);have wide: ∀{A B:World},cO T W1.heap.size A B->cO T w.heap.size A B:=fun h=>⟨h.os,h.tape,h.output,h.size,fun k hk hA=>h.low k (by omega) hA,h.block⟩
 refine⟨w.heap.size+1,[{target:=.collected w.heap.size,args:= #[]}],W1,{target:=.fn (.func gf) lb,args:= #[.func (.yield (w.heap.size+1)) #[] #[]]},W1,gf,
  #[.func (.yield (w.heap.size+1)) #[] #[]]++lb,W1, ?_, ?_, ?_, ?_,fun _=>by omega, ?_⟩
 ·rw[<-hW1,hrec];exact run_enterLoop_outer _ _ _ _ _
 ·simp only[resolve,hg]
  simp[go_sem]
 ·intro f' hf';exact trivial
 ·simp[invoke,go_sem,eg]
 have book: ∀{A B:World},cO T W1.heap.size A B->A.heap[w.heap.size+1]?=some (.loop (rec .ready none))->A.heap[w.heap.size]?=some (.deferred (some []))->
   B.heap[w.heap.size+1]?=some (.loop (rec .ready none))/\B.heap[w.heap.size]?=some (.deferred (some [])):=fun h h1 h2=>
  ⟨(h.low _ (by omega) (afb.1 h1).1).trans h1,(h.low _ (by omega) (afb.1 h2).1).trans h2⟩
 refine(hiter W1 hb1 (by omega) (w.heap.size+1)
  (fun pre W=>I pre W/\W.heap[w.heap.size+1]?=some (.loop (rec .ready none))/\W.heap[w.heap.size]?=some (.deferred (some [])))
  (fun W=>(∃pre,End pre/\I pre W/\W.heap[w.heap.size+1]?=some (.loop (rec .ready none))/\W.heap[w.heap.size]?=some (.deferred (some [])))\/
   ∃c,Ix c W/\W.heap[w.heap.size+1]?=some (.loop (rec .done (some c)))/\W.heap[w.heap.size]?=some (.deferred (some [])))
  (fun pre W h=>hAux pre W h.1) ?_ ?_ ?_ ⟨hI1,hL1,hK1⟩).mono ?_
 ·rintro pre A B ⟨h1,h2,h3⟩ h
  exact⟨hI _ _ _ h1 (wide h),book h h2 h3⟩
 ·
  rintro pre x W0 W ⟨hi,hl0,hk0⟩ hsame hpre hstep;obtain⟨hl,hk⟩:=book hsame hl0 hk0;have hlt:w.heap.size+1<W.heap.size:=(afb.1 hl).1;have hy:=run_yield (P:=P) (args:=encs x) hl (by rw[hrec];exact hps x)
  rw[hrec]at hy;have Jq:=hw₁ x W;obtain⟨WA,Jr⟩:=aj (w₁ x W);rw[Jr]at Jq;have hl':WA.heap[w.heap.size+1]?=some (.loop (rec .ready none)):=(Jq.block _ hlt).trans hl;have hk':WA.heap[w.heap.size]?=some (.deferred (some [])):=(Jq.block _ (by omega)).trans hk
  have anR:w.heap.size+1<WA.heap.size:=afn hlt Jq.size;refine⟨fn,_,assign,body,hy,roundIn_of_wpIn trivial (hassign _ x W _ ?_)⟩;rw[Jr];refine⟨_,run_beginRound hl' (by rw[hrec]), ?_⟩
  have hl2:(WA.putObj (w.heap.size+1) (.loop {rec .ready none with state:=.busy})).heap[w.heap.size+1]?=some (.loop {rec .ready none with state:=.busy}):=World.putObj_heap_same anR;have hk2:(WA.putObj (w.heap.size+1) (.loop {rec .ready none with state:=.busy})).heap[w.heap.size]?=some (.deferred (some [])):=(ar6 (by omega)).trans hk'
  have hs2:cO T w.heap.size W (WA.putObj (w.heap.size+1) (.loop {rec .ready none with state:=.busy})):=(cO.of_below Jq).trans (cO.putObj _ hl' (by omega))
  have hblk: ∀(b:Nat) (t:TypeId) (c:Array Value),ak (w₁ x W) b t c->ak (WA.putObj (w.heap.size+1) (.loop {rec .ready none with state:=.busy})) b t c:=fun b t c h=>by
   rw[Jr]at h;exact(ar6 (fun e=>by subst e;unfold ak at h;rw[hl']at h;cases h)).trans h
  refine wpIn_mono (hbody _ pre x W0 W _ hi (wide hsame) hs2 hblk (by rw[Jr];simp[World.putObj]) (by have:=anQ x W0 W (w.heap.size+1) _ {rec .ready none with state:=.busy} hpre (by rw[Jr];exact hl');rw[Jr]at this;exact this) hstep (by omega) (by have:=(afb.1 hl0).1;omega)) ?_
  have fin: ∀(jump:Option Code) (W3:World),KeepsFrom w.heap.size (WA.putObj (w.heap.size+1) (.loop {rec .ready none with state:=.busy})) W3->
    (Instr.endRound (w.heap.size+1) jump).run P W3=.ok (.bool jump.isNone) (W3.putObj (w.heap.size+1) (.loop (rec (if jump.isNone then .ready else .done) jump)))/\
    W3.heap[w.heap.size+1]?=some (.loop {rec .ready none with state:=.busy})/\
    (W3.putObj (w.heap.size+1) (.loop (rec (if jump.isNone then .ready else .done) jump))).heap[w.heap.size+1]?=some (.loop (rec (if jump.isNone then .ready else .done) jump))/\
    (W3.putObj (w.heap.size+1) (.loop (rec (if jump.isNone then .ready else .done) jump))).heap[w.heap.size]?=some (.deferred (some [])):=fun jump W3 hk3=>by
   have hl3:=hk3.same _ _ (by omega) hl2 rfl
   have:=run_endRound (P:=P) jump hl3;rw[hrec]at this⊢;exact⟨this,by rw[hrec]at hl3;exact hl3,World.putObj_heap_same (afb.1 hl3).1,(ar6 (by omega)).trans (hk3.same _ _ (aej _) hk2 rfl)⟩
  have aey: ∀(V:World) (r r':Loop),V.heap[w.heap.size+1]?=some (.loop r)->ny T V (V.putObj (w.heap.size+1) (.loop r')):=fun V r r' h=>
   ⟨by simp[World.putObj],fun k c fz hc=>(ar6 (fun e=>by subst e;rw[h]at hc;cases hc)).trans hc⟩
  rintro e a3 W3 hp;cases e with
  |normal=>
   obtain⟨hk3,hkp3,hi3⟩:=hp;obtain⟨hr,hl3,hl4,hk4⟩:=fin none W3 hk3;exact⟨_,_,hr,.inl ⟨rfl,⟨hI _ _ _ hi3 (cO.putObj _ hl3 (by omega)),hl4,hk4⟩,(ny.of_below Jq).trans ((aey WA _ _ hl').trans (hkp3.trans (aey W3 _ _ hl3)))⟩⟩
  |ret=>
   obtain⟨hk3,hi3⟩:=hp;obtain⟨hr,hl3,hl4,hk4⟩:=fin (some .ret) W3 hk3;exact⟨_,_,hr,.inr ⟨rfl,.inr ⟨.ret,hIx _ _ _ hi3 (cO.putObj _ hl3 (by omega)),hl4,hk4⟩⟩⟩
  |exit id=>
   obtain⟨hk3,hi3⟩:=hp;obtain⟨hr,hl3,hl4,hk4⟩:=fin (some (.exit id)) W3 hk3;exact⟨_,_,hr,.inr ⟨rfl,.inr ⟨.exit id,hIx _ _ _ hi3 (cO.putObj _ hl3 (by omega)),hl4,hk4⟩⟩⟩
  |goto t=>
   obtain⟨hk3,hi3⟩:=hp;obtain⟨hr,hl3,hl4,hk4⟩:=fin (some (.goto t)) W3 hk3;exact⟨_,_,hr,.inr ⟨rfl,.inr ⟨.goto t,hIx _ _ _ hi3 (cO.putObj _ hl3 (by omega)),hl4,hk4⟩⟩⟩
  |panic ch=>exact hp.elim
  |outgrown=>exact hp.elim
 ·rintro pre W ⟨h1,h2,h3⟩ hend
  exact .inl ⟨pre,hend,h1,h2,h3⟩
 rintro e W2 ⟨⟨v,rfl⟩,(⟨xs,hend,hi,hl,hk⟩|⟨c,hi,hl,hk⟩)⟩
 ·exact⟨none,_,by have:=run_endLoop (P:=P) hl (by rw[hrec];simp);rw[hrec]at this;exact this,hdone _ xs _ (aej _) hend (hI _ _ _ hi (cO.putObj _ hl (by omega))) ((ar6 (by omega)).trans hk)⟩
 exact⟨some c,_,by have:=run_endLoop (P:=P) hl (by rw[hrec];simp);rw[hrec]at this;exact this,hstop _ c _ (aej _) (hIx _ _ _ hi (cO.putObj _ hl (by omega))) ((ar6 (by omega)).trans hk)⟩
end Go.Proofs.YtdijgcnlbfgkdaaGreatDoor
