/- Contracts and plain laws,part 12. -/
import Derived.Test.YtkdakckjafomhaaGreatDoorUW11
set_option maxHeartbeats 64000000
set_option maxRecDepth 1000000
set_option linter.all false
namespace Go.Proofs.YtkdakckjafomhaaGreatDoor
open Go.RowKit
def elemV:Option (List UInt8×List UInt8)->Value
 |none=> .tuple #[.string ⟨#[]⟩,.string ⟨#[]⟩,.int .i64 220]
 |some (a,r)=> .tuple #[.string ⟨a.toArray⟩,.string ⟨r.toArray⟩,.int .i64 0]
structure O6 (s:ByteArray) (R:Option (List UInt8×List UInt8)) (w:World) (k:Nat) (acc:List UInt8) (wx:World):Prop where
 res:ak.elem (s.data.toList.drop k) acc=R
 len:acc.length<=k
 bel:Below w.heap.size w wx
 DF:dP w.heap.size w.heap.size acc wx
theorem ZH {d:UInt8} {l b:List UInt8} (h1:d≠92) (h2:d≠59):ak.elem (92 :: d :: l) b=none:=by
 rw[ak.elem,ade (by decide),adk rfl,ade (fun h=>h.elim h1 h2)]
theorem ah7 (s:ByteArray) (w:World) (hs:s.size<=1073741823):
  Calls Tryz.prog 169 #[.string s] w fun e w'=>e=.returned (elemV (ak.elem s.data.toList []))/\Below w.heap.size w w':=by
 obtain⟨R,hR⟩:=aj (ak.elem s.data.toList []);rw[hR];have HR:=ah hR
 have hsi:(s.size:Int)<=1073741823:=by omega
 clear hR;go_enter Tryz.func169,Tryz.ntmps169;go_wp2_with fail
 go_loopg [6] s.size (fun g x wx=> ∃(k:Nat) (acc:List UInt8),k+g=s.size/\x=.int .i64 k/\O6 s R w k acc wx)
 case atStart=>exact⟨0,[],by omega,rfl,⟨by rw[afA];exact HR.out,by simp,(Below.refl _ w).alloc (ac4 _) _,dP.fresh w⟩⟩
 obtain⟨k,acc,hk,rfl,hrel⟩:=hrel;have hlen:=hrel.len;have hsz:=hrel.bel.size
 have HQ:=ah hrel;clear hrel;cases gk with
 |zero=>
  obtain rfl:k=s.size:=by omega
  have hr:R=none:=by
   rw[<-HQ.res,aeJ (by rw[<-Lib.size_eq];omega)]
   rfl
  have HRR:=ah hr;clear hr;go_wp2
  go_ret3
  exact⟨by rw[HRR.out];rfl,HQ.bel⟩
 |succ g=>
  have hlt:k<s.size:=by omega
  have adq:(k:Int)<s.size:=by omega
  obtain⟨c,hc⟩:=aj (s[k]'hlt);have hdr:=OX hlt;rw[hc]at hdr;have hres:=HQ.res
  rw[hdr]at hres;have FH:=ah hk;have hcb:=byte_le c;by_cases DI:c=59
  ·subst DI
   have hr:R=some (acc,s.data.toList.drop (k+1)):=by rw[<-hres,ak.OD]
   have hx:=extract_drop s (k+1);have HRR:=ah hr;have HX:=ah hx
   have hbd:Below wr.heap.size wr wr.drew:=below_drewN (Below.refl _ _) 1
   have ny:dP w.heap.size w.heap.size acc wr.drew:=HQ.DF.below hbd
   have am2:w.heap.size<=wr.drew.heap.size:=hsz;have HB0:=ah (HQ.bel.trans (hbd.mono hsz))
   have hwr:IntKind.i64.wrap ((k:Int)+1)=(k:Int)+1:=IntWalk.i64_in _ (by omega)
   have hkn:((k:Int)+1).toNat=k+1:=by omega
   clear hres hdr hr hx hk;go_wp2_with fail
   go_region_with (go_at_call 66;refine(EX w.heap.size w.heap.size acc _ ny am2).mono ?_;rintro e w2 ⟨rfl,zJ,nC,-⟩)
   all_goals
    go_wp2
    go_ret3
    exact⟨by rw[HRR.out,elemV,<-HX.out];rfl,HB0.trans nC⟩
  by_cases AO:c=92
  ·subst AO
   by_cases hend:k+1=s.size
   ·have hr:R=none:=by
     rw[<-hres,aeJ (by rw[<-Lib.size_eq];omega)]
     rfl
    have HRR:=ah hr;have t1:decide ((s.size:Int)<=(k:Int)+1)=true:=adb (by omega)
    have KL:(s.size:Int)<=(k:Int)+1:=by omega
    clear hres hdr hr hk;go_wp2
    go_ret3
    exact⟨by rw[HRR.out];rfl,HQ.bel⟩
   have hlt1:k+1<s.size:=by omega
   have t1:decide ((s.size:Int)<=(k:Int)+1)=false:=ac5 (by omega)
   have KL:(k:Int)+1<s.size:=by omega
   obtain⟨d,hd⟩:=aj (s[k+1]'hlt1);have qg:=OX hlt1;rw[hd]at qg;rw[qg]at hres
   have hdb:=byte_le d;by_cases he:d=92\/d=59
   ·rw[ak.OE he]at hres
    have HN:=ah hres;have vI:=ah HQ.DF
    rcases he with rfl|rfl
    ·clear hres hdr qg hk hend
     go_wp2_with fail
     refine(EW w.heap.size w.heap.size acc _ _ vI.out (by omega) (by omega) (by omega) hsz).mono ?_
     rintro e w2 ⟨rfl,zJ,nC,-⟩
     have HR2:Hid (O6 s R w (k+2) (acc++[92]) w2):=⟨HN.out,by rw[adf,aeM];omega,HQ.bel.trans nC,zJ⟩
     clear zJ nC;go_wp2
     go_roundg (g - 1)
     case measure=>omega
     exact⟨k+2,_,by have:=FH.out;omega,int_eq' (by omega),HR2.out⟩
    clear hres hdr qg hk hend;go_wp2_with fail
    refine(EW w.heap.size w.heap.size acc _ _ vI.out (by omega) (by omega) (by omega) hsz).mono ?_
    rintro e w2 ⟨rfl,zJ,nC,-⟩
    have HR2:Hid (O6 s R w (k+2) (acc++[59]) w2):=⟨HN.out,by rw[adf,aeM];omega,HQ.bel.trans nC,zJ⟩
    clear zJ nC;go_wp2
    go_roundg (g - 1)
    case measure=>omega
    exact⟨k+2,_,by have:=FH.out;omega,int_eq' (by omega),HR2.out⟩
   simp only[aox]at he;have hr:R=none:=by rw[<-hres,ZH he.1 he.2]
   have HRR:=ah hr
   have t3:(((d.toNat:Nat):Int) !=92)=true:=by rw[bne,bq (k:=92) (n:=92) rfl (adh.2 he.1)];rfl
   have t4:(((d.toNat:Nat):Int) !=59)=true:=by rw[bne,bq (k:=59) (n:=59) rfl (adh.2 he.2)];rfl
   clear hres hdr qg hr hk hend he;go_wp2
   go_ret3
   exact⟨by rw[HRR.out];rfl,HQ.bel⟩
  have t59:(((c.toNat:Nat):Int) == 59)=false:=bq (k:=59) rfl (adh.2 DI)
  have t92:(((c.toNat:Nat):Int) == 92)=false:=bq (k:=92) rfl (adh.2 AO)
  rw[ak.elem_cons DI AO]at hres;have HN:=ah hres;have vI:=ah HQ.DF
  clear hres hdr hk DI AO;go_wp2_with fail
  refine(EW w.heap.size w.heap.size acc _ _ vI.out (by omega) (by omega) (by omega) hsz).mono ?_
  rintro e w2 ⟨rfl,zJ,nC,-⟩;rw[byte_back]at zJ
  have HR2:Hid (O6 s R w (k+1) (acc++[c]) w2):=⟨HN.out,by rw[adf,aeM];omega,HQ.bel.trans nC,zJ⟩
  clear zJ nC;go_wp2
  go_roundg g
  case measure=>omega
  exact⟨k+1,_,by have:=FH.out;omega,int_eq' (by omega),HR2.out⟩
theorem O7 (k n:Int) (hn:ak.In64 n):(ak.gK k n).length<=24:=by
 have h1:=JK hn.1 hn.2;have h2:=Zy (ak.u64 n);unfold ak.gK
 repeat' split
 ·omega
 ·exact h2
 ·decide
 decide
theorem ZI {k:Int}: ∀{l:List Int},ak.mM k l=0-> ∀n∈l,ak.gJ k n=0
 |[],_,n,h=>by cases h
 |m :: r,h,n,hn=>by
  obtain⟨h1,h2⟩:=ak.YV h
  rcases aeY.1 hn with rfl|hn
  ·exact h1
  exact ZI h2 n hn
theorem ah8 {l:List ak.L} (h:ak.kP l=false): ∀t∈l,t.length<=1000:=by
 intro t ht;unfold ak.kP at h;rw[aop]at h;have:=h t ht;simp at this;exact this
theorem ah9: ∀j:Fin 4,(({data:= #[98,105,102,115]}:ByteArray).data.toList)[j.val]?=some (ak.cls ((j.val:Int)+1)):=by decide+kernel
theorem aia (j:Nat) (h:j<4) (h':j<({data:= #[98,105,102,115]}:ByteArray).size):({data:= #[98,105,102,115]}:ByteArray)[j]'h'=ak.cls ((j:Int)+1):=by
 have e:=ah9 ⟨j,h⟩;have e2:=Zo (s:={data:= #[98,105,102,115]}) h';rw[e2]at e;exact ad4 e
structure JM (B:Nat) (w:World) (A C:List UInt8) (n:Nat) (acc:List UInt8) (wx:World):Prop where
 text:acc=A++C
 len:acc.length<=n
 bel:Below B w wx
 DF:dP B B acc wx
theorem JM.next {B:Nat} {w:World} {A C C':List UInt8} {n n':Nat} {acc x:List UInt8} {wx wy wz:World} (h:JM B w A C n acc wx) (hc:C'=C++x) (hl:n+x.length<=n') (h1:Below B wx wy) (h2:Below B wy wz) (hb:dP B B (acc++x) wz):JM B w A C' n' (acc++x) wz:=
 ⟨by rw[h.text,hc,aeG],by rw[adf];have:=h.len;omega,(h.bel.trans h1).trans h2,hb⟩
theorem adr {E:ByteArray} {l:List UInt8} (h:E.data.toList=l):(E ++⟨#[59]⟩).data.toList=l++[59]:=by
 rw[ByteArray.data_append,Array.toList_append,h]
theorem ZJ (E:ByteArray):(E ++⟨#[59]⟩).size=E.size+1:=by
 rw[aol];rfl
theorem ZK {α:Type} {l:List α} {k:Nat} {y:α} (h:l[k]?=some y) (f:α->List UInt8):(l.take (k+1)).flatMap f=(l.take k).flatMap f++f y:=by
 obtain⟨hk,he⟩:=adw.1 h;rw[afC hk,afG,he];simp
theorem print_any (B:Nat) (u:Value) (v:ak.V) (w:World) (h:oV w B u v) (hB:B<=w.heap.size) (hL:Laid w):
  Calls Tryz.prog 68 #[u] w fun e w'=>e=.returned (.tuple #[.string ⟨(ak.rV v).1.toArray⟩,.int .i64 ((ak.rV v).2:Nat)])/\Below w.heap.size w w':=by
 have hch:=fun(W:World) (hb:Below w.heap.size w W)=>check_any B u v W (h.below (hb.mono hB)) (adg hB hb.size)
 obtain⟨A1,c1,A2,c2,rfl,dG,cO⟩:=h.ex;have hnum:=h.num;have xE:=h.nums;have hnl:=h.nl
 have hsl:=h.sl;clear h;obtain⟨R,hR⟩:=aj (ak.rV v);rw[hR];unfold ak.rV at hR
 have hcp:=fun h=>ak.EO (v:=v) h
 obtain⟨cv,hcv⟩:=aj (ak.check v);rw[hcv]at hch hR hcp
 have hpr:ak.print v=ak.letter v.kind++[58] ++(if v.kind<4 then ak.gK v.kind v.num else[])++v.text++v.nums.flatMap (ak.iZ (v.kind - 4))++v.texts.flatMap ak.textE:=rfl
 obtain⟨pv,hpv⟩:=aj (ak.print v);rw[hpv]at hpr hR;clear hcv hpv
 obtain⟨k0,n0,t0,ns,ts⟩:=v;simp only at dG cO hnum xE hch hcp hpr hnl hsl⊢
 obtain⟨nn,hnn⟩:=aj ns.length;obtain⟨tn,htn⟩:=aj ts.length
 obtain⟨z,hz⟩:=aj (⟨t0.toArray⟩:ByteArray)
 have hzs:z.size=t0.length:=by rw[<-hz];exact gq _
 have hzd:z.data.toList=t0:=by rw[<-hz]
 rw[hnn]at dG hch hnl⊢;rw[htn]at cO hch hsl⊢;rw[hz]at hch⊢
 obtain⟨W1,hW1⟩:=aj (w.alloc (.cells #[.int .i64 k0,.int .i64 n0,.string z,.slice A1 nn c1,.slice A2 tn c2] 37))
 have hb1:Below w.heap.size w W1:=by rw[<-hW1];exact(Below.refl _ w).alloc (ac4 _) _
 have k1:au W1 w.heap.size 37 #[.int .i64 k0,.int .i64 n0,.string z,.slice A1 nn c1,.slice A2 tn c2]:=by rw[<-hW1];exact au.new _ _ _
 have xB:=ah (dG.below (hb1.mono hB));have xC:=ah (cO.below (hb1.mono hB))
 have HB1:=ah hb1;have HW1:=ah hW1;have FK:=ah (hch W1 hb1);have aC:=ah hnn
 have aI:=ah htn;have uy:=ah hnum;have KH:=ah xE;have HKB:=ah k1;have cZ:=ah hpr
 have HR:=ah hR;have dW:=ah hcp;have nV:=ah hzs;have HZD:=ah hzd;have HL:=ah hL
 obtain⟨a0,a1,a2,a3,a4,-⟩:=aU k1
 clear dG cO hnn htn hz k1 hb1 hW1 hch hnum xE hpr hR hcp hzs hzd hL;have hu:=lM
 go_enter Tryz.func68,Tryz.ntmps68
 go_upto_region 1 with fail
 rw[HW1.out];clear HW1;go_wp2_with fail;refine FK.mono ?_;rintro e w2 ⟨rfl,hb2⟩
 have HB2:=ah (HB1.trans (hb2.mono HB1.size));have aY:=ah (HKB.below hb2 HKB.lt)
 have hwz:=HB1.size;have Vr:=ah (xB.out.below (hb2.mono (adg hB hwz)))
 have Vs:=ah (xC.out.below (hb2.mono (adg hB hwz)));clear hb2 a0 a1 a2 a3 a4 FK xB xC HKB
 have hsz2:=HB2.size;obtain⟨a0,a1,a2,a3,a4,-⟩:=aU aY.out;by_cases hc0:cv=0
 case neg=>
  have hr:R=([],cv):=by rw[<-HR.out,ade hc0]
  have HRR:=ah hr;have t0:((cv:Int) !=0)=true:=by rw[adY];omega
  clear hr hc0;go_wp2
  go_ret2
  exact⟨by rw[HRR.out];rfl,HB2.out⟩
 subst hc0;have hr:R=(pv,0):=by rw[<-HR.out,adk rfl]
 have HRR:=ah hr;obtain⟨p1,p2,p3,p4,p5,p6,p7,p8⟩:=dW.out rfl;unfold ak.Unused at p3
 simp only[aox]at p3;obtain⟨u1,u2,u3,u4⟩:=p3
 obtain⟨m,hm⟩: ∃m:Nat,(m:Int)=ak.gV k0 - 1:=⟨(ak.gV k0 - 1).toNat,by unfold ak.gV;split<;>omega⟩
 have hm4:m<4:=by unfold ak.gV at hm;split at hm<;>omega
 have xu:(m:Int)<4:=by omega
 have hmod:(k0 - 1).tmod 4=(m:Int):=by
  rw[aqw (by omega),hm]
  unfold ak.gV
  split<;>omega
 have hcl:=fun h=>aia m hm4 h
 have hm1:(m:Int)+1=ak.gV k0:=by omega
 rw[hm1]at hcl;obtain⟨c,hc⟩:=aj (ak.cls (ak.gV k0));rw[hc]at hcl
 have hlt:ak.letter k0=if 4<k0 then[c,91,93] else[c]:=by
  unfold ak.letter;rw[<-hc];unfold ak.gV
  split<;>rfl
 have qO:=ah hlt;have hcb:=byte_le c;have Qq:=aC.out;have hTL:=aI.out;rw[Qq]at p4
 rw[hTL]at p5;have HU:=ah (⟨u1,u2,u3,u4⟩:_/\_/\_/\_);have HP6:=ah p6;have HP7:=ah p7
 have xF:=ah p8;have FM:=ah hm1;have p4i:(nn:Int)<=40:=by omega
 have p5i:(tn:Int)<=40:=by omega
 clear hr HR u1 u2 u3 u4 p6 p7 p8 hm hm1 hlt Qq hTL hc dW
 obtain⟨W3,hW3⟩:=aj (w2.alloc (.cells #[.pointer none,.slice none 0 0] 126))
 have IV:=dP.fresh w2
 have KN:Below w2.heap.size w2 (w2.alloc _):=(Below.refl _ w2).alloc (ac4 _) (.cells #[.pointer none,.slice none 0 0] 126)
 rw[hW3]at IV KN;have hsz3:=KN.size;have hkl:=aY.lt;have dB:=ah (aY.below KN hkl)
 have HW3:=ah hW3;have HB3:=ah KN;have HD3:=ah IV;clear hW3 IV KN
 go_upto_region 5 with fail
 rw[HW3.out];clear HW3 a0 a1 a2 a3 a4;obtain⟨a0,a1,a2,a3,a4,-⟩:=aU dB.out
 go_wp2_with fail
 refine(EW w2.heap.size w2.heap.size [] (c.toNat:Int) W3 HD3.out (by omega) (by omega) (by simp) hsz3).mono ?_
 rintro e w4 ⟨rfl,DJ,xG,-⟩;rw[byte_back,aex]at DJ;have HB4:=ah (HB3.trans xG)
 have HD4:=ah DJ;have ads:=HB4.size;clear DJ xG a0 a1 a2 a3 a4 hcl hcb hmod
 obtain⟨a0,a1,a2,a3,a4,-⟩:=aU (aY.below HB4.out hkl);by_cases h4:4<k0
 ·have d4:decide (4<k0)=true:=adb h4
  have Vt:(k0 == 4)=false:=adh.2 (by omega)
  have d3:decide (k0<4)=false:=ac5 (by omega)
  have I4:5<=k0:=by omega
  have hn0:n0=0:=by apply Decidable.not_not.1;intro e;exact HU.out.1 ⟨e,by omega⟩
  have ht0:t0=[]:=by apply Decidable.not_not.1;intro e;exact HU.out.2.1 ⟨e,by omega⟩
  have hp:=cZ.out;rw[ade (show¬k0<4 by omega),ht0,qO.out,adk h4]at hp
  simp only[aey]at hp;have HP:=ah hp
  have adt:(m:Int)+1=k0 - 4:=by rw[FM.out];unfold ak.gV;rw[adk h4]
  have sQ:=ah adt;clear hn0 ht0 hp adt;go_wp2_with fail
  refine(uf w2.heap.size w2.heap.size [c] _ w4 HD4.out (by decide) (by simp) ads).mono ?_
  rintro e w5 ⟨rfl,adu,adv,-⟩;have bG:=ah (HB4.trans adv);have HD5:=ah adu
  have hsz5:=bG.size;clear adu adv a0 a1 a2 a3 a4
  obtain⟨a0,a1,a2,a3,a4,-⟩:=aU (aY.below bG.out hkl);go_wp2_with fail
  refine(uf w2.heap.size w2.heap.size _ _ w5 HD5.out (by decide) (by simp) hsz5).mono ?_
  rintro e w6 ⟨rfl,KO,KP,-⟩;have dO:=ah (bG.trans KP)
  have HD6:Hid (dP w2.heap.size w2.heap.size ([c,91,93]++[58]) w6):=KO;have xH:=dO.size
  clear KO KP a0 a1 a2 a3 a4;obtain⟨a0,a1,a2,a3,a4,-⟩:=aU (aY.below dO.out hkl)
  go_wp2_with fail;clear a0 a1 a2 a3 a4
  go_loopg [48] nn (fun g x wr=> ∃(k:Nat) (acc:List UInt8),x=.int .i64 k/\k+g=nn/\JM w2.heap.size w2 ([c,91,93]++[58]) ((ns.take k).flatMap (ak.iZ (k0 - 4))) (4+25*k) acc wr)
  case atStart=>exact⟨0,_,rfl,by omega,⟨by simp,by simp,dO.out,HD6.out⟩⟩
  obtain⟨k,acc,rfl,hk,hrel⟩:=hrel;have hlen:=hrel.len;have FN:=hrel.bel.size
  have HQ:=ah hrel;have HK:=ah hk;clear hrel;cases gk with
  |zero=>
   obtain rfl:k=nn:=by omega
   have hfull:(ns.take k).flatMap (ak.iZ (k0 - 4))=ns.flatMap (ak.iZ (k0 - 4)):=by rw[ado (by have:=aC.out;omega)]
   have hq:=HQ.out;rw[hfull]at hq;have iT:=ah hq
   obtain⟨a0,a1,a2,a3,a4,-⟩:=aU (aY.below HQ.bel hkl);clear hfull hq hk HQ
   go_wp2_with fail;clear a0 a1 a2 a3 a4
   go_loopg [62] tn (fun g x wr=> ∃(j:Nat) (acc:List UInt8),x=.int .i64 j/\j+g=tn/\JM w2.heap.size w2 ([c,91,93]++[58]++ns.flatMap (ak.iZ (k0 - 4))) ((ts.take j).flatMap ak.textE) (1100+2001*j) acc wr)
   case atStart=>exact⟨0,acc,rfl,by omega,⟨by rw[iT.text];simp,by omega,iT.bel,iT.DF⟩⟩
   clear hlen FN;obtain⟨j,acc,rfl,hj,hrel⟩:=hrel;have hlen:=hrel.len
   have FN:=hrel.bel.size;have HQ:=ah hrel;have HJ:=ah hj;clear hrel;cases gk with
   |zero=>
    obtain rfl:j=tn:=by omega
    have hfin:acc=pv:=by
     rw[HQ.text,HP.out,ado (by have:=aI.out;omega)]
    have HF:=ah hfin;clear hfin hj;go_wp2_with fail
    refine(EX w2.heap.size w2.heap.size _ _ HQ.DF FN).mono ?_;rintro e w7 ⟨rfl,Qr,Qs,-⟩
    go_wp2
    go_ret2
    exact⟨by rw[HRR.out,<-HF.out];rfl,HB2.trans ((HQ.bel.trans Qs).mono hsz2)⟩
   |succ g=>
    have hjn:j<tn:=by omega
    have Az:(j:Int)<tn:=by omega
    have hjl:j<ts.length:=by rw[aI.out];exact hjn
    obtain⟨p,o,x,rfl,-,hx,hp⟩:=(Vs.out.below (HQ.bel.mono (by omega))).cell hjn
    rw[adX,dF hjl]at hx;obtain rfl:=(ad4 hx).symm;obtain⟨y,hy⟩:=aj (ts[j])
    rw[hy]at hp;unfold ST at hp;have hyj:ts[j]?=some y:=by rw[dF hjl,hy]
    have hyl:y.length<=1000:=ah8 HP7.out y (adI hyj)
    have hcall:=fun(W:World) (hb:Below w2.heap.size w2 W)=>ah1 y W (by omega) (HL.below (HB2.trans (hb.mono hsz2)))
    have hel:=ZF y;obtain⟨zy,hzy⟩:=aj (⟨y.toArray⟩:ByteArray)
    obtain⟨E,hE⟩:=aj (⟨(ak.iw y).toArray⟩:ByteArray)
    have hEs:E.size=(ak.iw y).length:=by rw[<-hE];exact gq _
    have DK:E.data.toList=ak.iw y:=by rw[<-hE]
    rw[hzy]at hp hcall;rw[hE]at hcall;have HC:=ah (hcall _ HQ.bel);have KQ:=ah DK
    have hEl:E.size<=2000:=by omega
    have Vu:=ah (show(ak.iw y).length<=2000 by omega)
    have hfl:=ah (ZK hyj ak.textE);clear hx hj hjl hy hyj hyl hcall hel hzy hE hEs DK
    go_wp2_with fail;refine HC.mono ?_;rintro e w7 ⟨rfl,hb7⟩;have bD:=ah hb7
    have ny:=HQ.DF.below hb7;have HD7:=ah ny;have FP:=adg FN hb7.size;clear hb7 ny
    go_wp2_with fail;have q1:(E ++⟨#[59]⟩).size<1073741824:=by rw[ZJ];omega
    have q2:acc.length<1073741824:=by omega
    have q3:=uf w2.heap.size w2.heap.size acc (E ++⟨#[59]⟩) w7 HD7.out q1 q2 FP
    clear q1 q2;refine q3.mono ?_;rintro e w8 ⟨rfl,xJ,DL,-⟩;rw[adr KQ.out]at xJ
    have Vw:=Vu.out
    have HN:=ah (HQ.next (n':=1100+2001*(j+1)) (x:=ak.textE y) hfl.out (by unfold ak.textE;rw[adf,aeM];omega) (bD.mono FN) DL xJ)
    clear Vw q3;clear xJ DL;go_wp2
    go_roundg g
    case measure=>omega
    exact⟨j+1,_,int_eq' (by omega),by have:=HJ.out;omega,HN.out⟩
  |succ g=>
   have hkn:k<nn:=by omega
   have dH:(k:Int)<nn:=by omega
   have hkl':k<ns.length:=by rw[aC.out];exact hkn
   obtain⟨p,o,x,rfl,-,hx,hp⟩:=(Vr.out.below (HQ.bel.mono (by omega))).cell hkn
   rw[adX,dF hkl']at hx;obtain rfl:=(ad4 hx).symm;obtain⟨y,hy⟩:=aj (ns[k])
   rw[hy]at hp;unfold I64 at hp;have hyk:ns[k]?=some y:=by rw[dF hkl',hy]
   have hyi:ak.In64 y:=KH.out y (adI hyk)
   have hk8:k0≠8:=fun e=>HU.out.2.2.1 ⟨fun h=>by rw[h]at hkl';simp at hkl',.inr e⟩
   have hw8:=xF.out;rw[ade (show¬k0<4 by omega)]at hw8
   have hyw:=ZI hw8 y (adI hyk)
   have hcall:=fun(W:World) (hb:Below w2.heap.size w2 W)=>ZA (k0 - 4) y W (by omega) (by omega) hyi hyw (HL.below (HB2.trans (hb.mono hsz2)))
   have hel:=O7 (k0 - 4) y hyi;obtain⟨E,hE⟩:=aj (⟨(ak.gK (k0 - 4) y).toArray⟩:ByteArray)
   have hEs:E.size=(ak.gK (k0 - 4) y).length:=by rw[<-hE];exact gq _
   have DK:E.data.toList=ak.gK (k0 - 4) y:=by rw[<-hE]
   have apy:(m:Int)<3:=by have:=sQ.out;omega
   rw[hE,<-sQ.out]at hcall;have HC:=ah (hcall _ HQ.bel);have KQ:=ah DK
   have hEl:E.size<=24:=by omega
   have Vu:=ah (show(ak.gK (k0 - 4) y).length<=24 by omega)
   have hfl:=ah (ZK hyk (ak.iZ (k0 - 4)))
   clear hx hk hkl' hy hyk hyi hk8 hw8 hyw hcall hel hE hEs DK;go_wp2_with fail
   refine HC.mono ?_;rintro e w7 ⟨rfl,hb7⟩;have bD:=ah hb7;have ny:=HQ.DF.below hb7
   have HD7:=ah ny;have FP:=adg FN hb7.size;clear hb7 ny;go_wp2_with fail
   have q1:(E ++⟨#[59]⟩).size<1073741824:=by rw[ZJ];omega
   have q2:acc.length<1073741824:=by omega
   have q3:=uf w2.heap.size w2.heap.size acc (E ++⟨#[59]⟩) w7 HD7.out q1 q2 FP;clear q1 q2
   refine q3.mono ?_;rintro e w8 ⟨rfl,xJ,DL,-⟩;rw[adr KQ.out]at xJ;have Vw:=Vu.out
   have HN:=ah (HQ.next (n':=4+25*(k+1)) (x:=ak.iZ (k0 - 4) y) hfl.out (by unfold ak.iZ;rw[adf,aeM];omega) (bD.mono FN) DL xJ)
   clear Vw q3;clear xJ DL;go_wp2
   go_roundg g
   case measure=>omega
   exact⟨k+1,_,int_eq' (by omega),by have:=HK.out;omega,HN.out⟩
 have d4:decide (4<k0)=false:=ac5 h4;have I4:k0<=4:=by omega
 have hns:ns=[]:=by apply Decidable.not_not.1;intro e;exact HU.out.2.2.1 ⟨e,.inl (by omega)⟩
 have hts:ts=[]:=by apply Decidable.not_not.1;intro e;exact HU.out.2.2.2 ⟨e,by omega⟩
 subst hns hts;obtain rfl:nn=0:=aC.symm;obtain rfl:tn=0:=aI.symm;have hp:=cZ.out
 rw[qO.out,ade h4,amX,amX,aey,aey]at hp;go_wp2_with fail
 refine(uf w2.heap.size w2.heap.size [c] _ w4 HD4.out (by decide) (by simp) ads).mono ?_
 rintro e w6 ⟨rfl,KO,KP,-⟩;have dO:=ah (HB4.trans KP)
 have HD6:Hid (dP w2.heap.size w2.heap.size ([c]++[58]) w6):=KO;have xH:=dO.size
 clear KO KP a0 a1 a2 a3 a4;obtain⟨a0,a1,a2,a3,a4,-⟩:=aU (aY.below dO.out hkl)
 by_cases iU:k0=4
 ·subst iU
  rw[ade (show¬(4:Int)<4 by omega),aey]at hp
  have HP:=ah hp;have hzl:z.size<1073741824:=by have:=nV.out;have:=HP6.out;omega
  clear hp h4 d4;go_wp2_with fail
  refine(uf w2.heap.size w2.heap.size _ z w6 HD6.out hzl (by simp) xH).mono ?_
  rintro e w7 ⟨rfl,Qr,Qs,-⟩;rw[HZD.out,<-HP.out]at Qr;have bD:=ah (dO.trans Qs)
  have HD7:=ah Qr;have FP:=bD.size;clear Qr Qs a0 a1 a2 a3 a4
  obtain⟨a0,a1,a2,a3,a4,-⟩:=aU (aY.below bD.out hkl);go_wp2_with fail
  clear a0 a1 a2 a3 a4
  go_loopg [48] 0 (fun g x wr=>x=.int .i64 0/\w7=wr/\g=0)
  case atStart=>exact⟨rfl,rfl,rfl⟩
  obtain⟨rfl,rfl,hg0⟩:=hrel;cases gk with
  |succ g=>omega
  |zero=>
   obtain⟨a0,a1,a2,a3,a4,-⟩:=aU (aY.below bD.out hkl);go_wp2_with fail
   clear a0 a1 a2 a3 a4
   go_loopg [62] 0 (fun g x wr=>x=.int .i64 0/\w7=wr/\g=0)
   case atStart=>exact⟨rfl,rfl,rfl⟩
   obtain⟨rfl,rfl,hg0⟩:=hrel;cases gk with
   |succ g=>omega
   |zero=>
    go_wp2_with fail;refine(EX w2.heap.size w2.heap.size _ _ HD7.out FP).mono ?_
    rintro e wE ⟨rfl,am6,Vx,-⟩;go_wp2
    go_ret2
    exact⟨by rw[HRR.out];rfl,HB2.trans ((bD.trans Vx).mono hsz2)⟩
 have h43:k0<4:=by omega
 have Vt:(k0 == 4)=false:=adh.2 iU;have d3:decide (k0<4)=true:=adb h43
 have ht0:t0=[]:=by apply Decidable.not_not.1;intro e;exact HU.out.2.1 ⟨e,by omega⟩
 rw[adk h43,ht0,aey]at hp;have HP:=ah hp;have hw8:=xF.out;rw[adk h43]at hw8
 have hcall:=ZA k0 n0 w6 (by omega) (by omega) uy.out hw8 (HL.below (HB2.trans (dO.mono hsz2)))
 have hel:=O7 k0 n0 uy.out;obtain⟨E,hE⟩:=aj (⟨(ak.gK k0 n0).toArray⟩:ByteArray)
 have hEs:E.size=(ak.gK k0 n0).length:=by rw[<-hE];exact gq _
 have DK:E.data.toList=ak.gK k0 n0:=by rw[<-hE]
 rw[hE]at hcall;have HC:=ah hcall;have KQ:=ah DK;have hEl:E.size<1073741824:=by omega
 clear hp h4 d4 iU ht0 hw8 hcall hel hE hEs DK;go_wp2_with fail;refine HC.mono ?_
 rintro e w7 ⟨rfl,hb7⟩;have bD:=ah (dO.trans (hb7.mono xH));have ny:=HD6.below hb7
 have HD7:=ah ny;have FP:=bD.size;clear hb7 ny a0 a1 a2 a3 a4;go_wp2_with fail
 have q3:=uf w2.heap.size w2.heap.size ([c]++[58]) E w7 HD7.out hEl (by simp) FP
 refine q3.mono ?_;rintro e w8 ⟨rfl,xJ,DL,-⟩;rw[KQ.out,<-HP.out]at xJ
 have mg:=ah (bD.trans DL);have HD8:=ah xJ;have am8:=mg.size;clear xJ DL q3
 obtain⟨a0,a1,a2,a3,a4,-⟩:=aU (aY.below mg.out hkl);go_wp2_with fail;clear a0 a1 a2 a3 a4
 go_loopg [48] 0 (fun g x wr=>x=.int .i64 0/\w8=wr/\g=0)
 case atStart=>exact⟨rfl,rfl,rfl⟩
 obtain⟨rfl,rfl,hg0⟩:=hrel;cases gk with
 |succ g=>omega
 |zero=>
  obtain⟨a0,a1,a2,a3,a4,-⟩:=aU (aY.below mg.out hkl);go_wp2_with fail
  clear a0 a1 a2 a3 a4
  go_loopg [62] 0 (fun g x wr=>x=.int .i64 0/\w8=wr/\g=0)
  case atStart=>exact⟨rfl,rfl,rfl⟩
  obtain⟨rfl,rfl,hg0⟩:=hrel;cases gk with
  |succ g=>omega
  |zero=>
   go_wp2_with fail;refine(EX w2.heap.size w2.heap.size _ _ HD8.out am8).mono ?_
   rintro e wE ⟨rfl,am6,Vx,-⟩;go_wp2
   go_ret2
   exact⟨by rw[HRR.out];rfl,HB2.trans ((mg.trans Vx).mono hsz2)⟩
theorem ZM: ∀(l b:List UInt8),(Lib.cut l [59]).2.2=(ak.ku l b).isSome/\ ∀x r,ak.ku l b=some (x,r)->x=b ++(Lib.cut l [59]).1/\r=(Lib.cut l [59]).2.1:=by
 intro l b;unfold Lib.cut;rw[Lib.index_one]
 induction l generalizing b with
 |nil=>
  refine⟨rfl, ?_⟩;intro x r h;cases h
 |cons c l ih=>
  have hge:=Lib.indexByte_ge l 59;by_cases hc:c=59
  ·subst hc
   have e:Lib.indexByte (59 :: l) 59=0:=by simp[Lib.indexByte]
   have e2:ak.ku (59 :: l) b=some (b,l):=by simp[ak.ku]
   rw[e,e2];refine⟨rfl, ?_⟩;intro x r h;cases h;simp
  have e2:ak.ku (c :: l) b=ak.ku l (b++[c]):=by rw[ak.ku,ade hc]
  rw[e2];obtain⟨i1,i2⟩:=ih (b++[c]);by_cases hi:Lib.indexByte l 59<0
  ·have e:Lib.indexByte (c :: l) 59= -1:=by simp[Lib.indexByte,hc];omega
   rw[ade (by omega)]at i1 i2
   rw[e,ade (by omega)]
   refine⟨i1, ?_⟩;intro x r h;rw[h]at i1;cases i1
  obtain⟨n,hn⟩: ∃n:Nat,Lib.indexByte l 59=n:=⟨(Lib.indexByte l 59).toNat,by omega⟩
  have e:Lib.indexByte (c :: l) 59=((n+1:Nat):Int):=by simp[Lib.indexByte,hc,hn]
  rw[hn,adk (by omega)]at i1 i2
  rw[e,adk (by omega)]
  refine⟨i1, ?_⟩;intro x r h;obtain⟨j1,j2⟩:=i2 x r h;refine⟨?_, ?_⟩
  ·rw[j1];simp
  rw[j2];simp
theorem aib {l:List UInt8} (h:ak.ku l []=none):(Lib.cut l [59]).2.2=false:=by
 have:=(ZM l []).1;rw[h]at this;exact this
theorem aic {l x r:List UInt8} (h:ak.ku l []=some (x,r)):Lib.cut l [59]=(x,r,true):=by
 obtain⟨h1,h2⟩:=ZM l [];obtain⟨h3,h4⟩:=h2 x r h;rw[h]at h1;rw[h3,h4,aex]
 exact anG rfl (anG rfl h1)
theorem aie {l x r:List UInt8} (h:ak.ku l []=some (x,r)):x.length+r.length+1=l.length:=by
 obtain⟨a,e1,e2⟩:=ak.OC l [] x r h;rw[aex]at e1;rw[e2,e1];simp;omega
theorem aif {l x r:List UInt8} (h:ak.elem l []=some (x,r)):x.length+r.length+1<=l.length:=by
 obtain⟨t,e1,e2⟩:=ak.Jz _ l [] x r (ac4 _) h;rw[aex]at e1
 have: ∀t:List UInt8,t.length<=(ak.iw t).length:=by
  intro t
  induction t with
  |nil=>simp
  |cons c t ih=>
   unfold ak.iw
   split
   ·simp only[adQ];omega
   simp only[adQ];omega
 have h2:=this t;rw[e2,e1];simp;omega
structure oI (b:Nat) (w:World) (c0:Int) (s t:Value) (ns:List Int) (ts:List (List UInt8)) (W:World):Prop where
 fG:au W b 37 #[.int .i64 c0,.int .i64 0,.string ⟨#[]⟩,s,t]
 own:W.ownsRow (b+1) 2 1 s ns.length (ns.map I64)
 owt:W.ownsRow (b+1) 9 1 t ts.length (ts.map ST)
 bel:Below b w W
 big:b+1<=W.heap.size
theorem oI.below {b:Nat} {w:World} {c0:Int} {s t:Value} {ns:List Int} {ts:List (List UInt8)} {W W':World} (h:oI b w c0 s t ns ts W) (hb:Below W.heap.size W W'):oI b w c0 s t ns ts W':=by
 have hB:=h.big
 exact⟨h.fG.below hb h.fG.lt,aW h.own (dL hb none) (fun g c t fz hr=>by cases hr),aW h.owt (dL hb none) (fun g c t fz hr=>by cases hr),h.bel.trans (hb.mono (by omega)),adg hB hb.size⟩
theorem oI.num {b:Nat} {w:World} {c0:Int} {s t s':Value} {ns:List Int} {y:Int} {ts:List (List UInt8)} {W W1:World} (h:oI b w c0 s t ns ts W)
  (ho:W1.ownsRow (b+1) 2 1 s' (ns.length+1) (ns.map I64++[I64 y])) (hg:W.grownBy W1 s.ownBlock) (hb:Below (b+1) W W1):
  W1.cell? ⟨b,3,none⟩=some s/\W1.frozen? ⟨b,3,none⟩=false/\oI b w c0 s' t (ns++[y]) ts (W1.setCell ⟨b,3,none⟩ s'):=by
 have k2:=h.fG.below hb (by omega)
 have o2:=y8 h.owt hg h.own (by decide)
 have hs:=grownBy_set W1 ⟨b,3,none⟩ s'
 have nt: ∀{e:TypeId},e≠37-> ∀g c t fz,some (⟨b,3,none⟩:Addr).block=some g->W1.heap[g]?=some (.cells c t fz)->t≠e:=fun he g c t fz e hc=>by
  cases e;unfold au at k2;rw[k2]at hc;cases hc;exact Ne.symm he
 refine⟨k2.cell 3,k2.frozen 3,au.cast (k2.bP 3 s') (by simp), ?_,aW o2 hs (nt (by decide)), ?_, ?_⟩
 ·rw[adf,ad8]
  exact aW ho hs (nt (by decide))
 ·exact(h.bel.trans (hb.mono (by omega))).setCell (p:=⟨b,3,none⟩) (by simp) _
 have:=h.big;have:=hb.size;simp;omega
theorem oI.txt {b:Nat} {w:World} {c0:Int} {s t t':Value} {ns:List Int} {y:List UInt8} {ts:List (List UInt8)} {W W1:World} (h:oI b w c0 s t ns ts W)
  (ho:W1.ownsRow (b+1) 9 1 t' (ts.length+1) (ts.map ST++[ST y])) (hg:W.grownBy W1 t.ownBlock) (hb:Below (b+1) W W1):
  W1.cell? ⟨b,4,none⟩=some t/\W1.frozen? ⟨b,4,none⟩=false/\oI b w c0 s t' ns (ts++[y]) (W1.setCell ⟨b,4,none⟩ t'):=by
 have k2:=h.fG.below hb (by omega)
 have o2:=y8 h.own hg h.owt (by decide)
 have hs:=grownBy_set W1 ⟨b,4,none⟩ t'
 have nt: ∀{e:TypeId},e≠37-> ∀g c t fz,some (⟨b,4,none⟩:Addr).block=some g->W1.heap[g]?=some (.cells c t fz)->t≠e:=fun he g c t fz e hc=>by
  cases e;unfold au at k2;rw[k2]at hc;cases hc;exact Ne.symm he
 refine⟨k2.cell 4,k2.frozen 4,au.cast (k2.bP 4 t') (by simp),aW o2 hs (nt (by decide)), ?_, ?_, ?_⟩
 ·rw[adf,ad8]
  exact aW ho hs (nt (by decide))
 ·exact(h.bel.trans (hb.mono (by omega))).setCell (p:=⟨b,4,none⟩) (by simp) _
 have:=h.big;have:=hb.size;simp;omega
def TM (b:Nat) (w:World) (c0:Int) (ns:List Int) (ts:List (List UInt8)) (er:Nat) (e:Ending) (w':World):Prop:=
 e=.returned (.int .i64 er)/\Below b w w'/\b+1<=w'.heap.size/\ ∃s t,au w' b 37 #[.int .i64 c0,.int .i64 0,.string ⟨#[]⟩,s,t]/\(er=0->oI b w c0 s t ns ts w')
theorem aii (k:Int) (rest:ByteArray) (w0 w:World) (hk5:5<=k) (I5:k<=7) (hs:rest.size<=1073741823) (hL:Laid w0)
  (hb:oI w0.heap.size w0 k (.slice none 0 0) (.slice none 0 0) [] [] w):
  Calls Tryz.prog 121 #[.pointer (some ⟨w0.heap.size,0,none⟩),.string rest] w (TM w0.heap.size w0 k (ak.kQ (k - 4) (rest.size+1) rest.data.toList []).1 [] (ak.kQ (k - 4) (rest.size+1) rest.data.toList []).2):=by
 obtain⟨R,hR⟩:=aj (ak.kQ (k - 4) (rest.size+1) rest.data.toList []);rw[hR]
 have HR:=ah hR;have HB:=ah hb;have HL:=ah hL
 have hsi:(rest.size:Int)<=1073741823:=by omega
 clear hR hb hL;go_enter Tryz.func121,Tryz.ntmps121;go_wp2_with fail
 go_loopg [1] rest.size (fun g x wr=> ∃(z:ByteArray) (f:Nat) (ns:List Int) (s:Value),x=.string z/\z.size=g/\z.size<f/\ak.kQ (k - 4) f z.data.toList ns=R/\ns.length+z.size<=rest.size/\oI w0.heap.size w0 k s (.slice none 0 0) ns [] wr)
 case atStart=>exact⟨rest,rest.size+1,[],.slice none 0 0,rfl,rfl,by omega,HR.out,by simp,HB.out⟩
 obtain⟨z,f,ns,s,rfl,hz,hf,hres,hnl,hrel⟩:=hrel;have HQ:=ah hrel
 obtain⟨As,cs,rfl⟩:=aF hrel.own;have hbig:=hrel.big;obtain⟨a0,a1,a2,a3,a4,-⟩:=aU hrel.fG
 clear hrel;cases f with
 |zero=>omega
 |succ f=>
 unfold ak.kQ at hres;cases gk with
 |zero=>
  have hzl:z.data.toList=[]:=adB (by rw[<-Lib.size_eq];exact hz)
  have t0:(z.toList ==[])=true:=by rw[Lib.toList_data,hzl];rfl
  have t1:(z.toList !=[])=false:=by rw[Lib.toList_data,hzl];rfl
  rw[adk hzl]at hres;subst hres;clear hzl hz hf;go_wp2;go_ret
  exact⟨rfl,HQ.bel,HQ.big,_,_,HQ.fG,fun _=>HQ.out⟩
 |succ g=>
  have hzl:z.data.toList≠ []:=fun e=>by have:=Lib.size_eq z;rw[e,ae8]at this;omega
  have t0:(z.toList ==[])=false:=by rw[Lib.toList_data];exact uU hzl
  have t1:(z.toList !=[])=true:=by rw[bne,t0];rfl
  have t8:(k == 8)=false:=adh.2 (by omega)
  rw[ade hzl]at hres;obtain⟨mm,hmm⟩:=(HL.below HQ.bel).max
  have hcut:=Tryz.strings_Cut z ⟨#[59]⟩ mm wr (by omega) hmm
  have e59:(⟨#[59]⟩:ByteArray).data.toList=[59]:=rfl;rw[e59]at hcut
  cases hc:ak.ku z.data.toList [] with
  |none=>
   rw[hc]at hres;simp only at hres;have hcn:=aib hc;rw[hcn]at hcut;subst hres
   have HC:=ah hcut;clear hcut hcn hc hzl hz hf hmm e59;go_wp2_with fail;refine HC.mono ?_
   rintro e w1 ⟨rfl,n,rfl⟩;have xK:=ah (HQ.below (below_drewN (Below.refl _ _) n));go_wp2
   go_ret;exact⟨rfl,xK.bel,xK.big,_,_,xK.fG,fun h=>by cases h⟩
  |some xr=>
   obtain⟨x,r⟩:=xr;rw[hc]at hres;simp only at hres;have hcy:=aic hc;have hcs:=aie hc
   rw[<-Lib.size_eq]at hcs;rw[hcy]at hcut;simp only at hcut
   obtain⟨zx,hzx⟩:=aj (⟨x.toArray⟩:ByteArray);obtain⟨zr,qh⟩:=aj (⟨r.toArray⟩:ByteArray)
   have adx:zx.data.toList=x:=by rw[<-hzx]
   have KR:zr.data.toList=r:=by rw[<-qh]
   have ady:zx.size=x.length:=by rw[<-hzx];exact gq _
   have hzrs:zr.size=r.length:=by rw[<-qh];exact gq _
   rw[hzx,qh]at hcut
   have hpn:=fun(W:World) (hb:Below w0.heap.size w0 W)=>ZC (k - 4) zx W (by omega) (by omega) (by omega) (HL.below hb)
   rw[adx]at hpn;obtain⟨N,hN⟩:=aj (ak.fZ (k - 4) x);rw[hN]at hpn hres
   have HC:=ah hcut;have dY:=ah hpn;have Vy:=ah KR
   have KT:=ah (show zr.size<z.size/\zr.size<f by omega)
   have kD:=ah hres;have Vz:=ah (show ns.length+1+zr.size<=rest.size by omega)
   have AQ:ns.length<1073741824:=by omega
   have HZ:=ah hz
   clear hcut hcy hcs hc hzx qh adx KR ady hzrs hpn hN hzl hz hf hmm e59 hres hnl
   go_wp2_with fail;refine HC.mono ?_;rintro e w1 ⟨rfl,n,rfl⟩
   have xK:=ah (HQ.below (below_drewN (Below.refl _ _) n));clear a0 a1 a2 a3 a4
   obtain⟨a0,a1,a2,a3,a4,-⟩:=aU xK.fG;go_wp2_with fail;refine(dY.out _ xK.bel).mono ?_
   rintro e w2 ⟨rfl,hb2⟩;have iT:=ah (xK.below hb2);clear a0 a1 a2 a3 a4 hb2
   obtain⟨a0,a1,a2,a3,a4,-⟩:=aU iT.fG;obtain⟨y,er⟩:=N;by_cases he:er=0
   ·subst he
    have hres:=kD.out;rw[ade (by simp)]at hres
    have Qu:=ah hres;have hbg:=iT.big
    have zG:=(iT.fG.alloc (.cells #[.int .i64 y] 2)).cell 3;simp at zG;clear hres
    go_wp2_with (at_builtin;refine fD rfl (.tmp 62) (.tmp 64) 35 2 (.int .i64 0) 8 Tryz.underlying35 TG rfl (by decide) rfl (w0.heap.size+1) (.slice As ns.length cs) ns.length _ w2 rfl iT.own (.int .i64 y) rfl rfl AQ hbg ?_)
    intro v9 w9 aJ bI dD aB;obtain⟨A9,c9,rfl⟩:=aF aJ;obtain⟨d3,FD,hnx⟩:=iT.num aJ bI aB
    have gW:=ah hnx;clear aJ bI dD aB hnx zG a0 a1 a2 a3 a4;go_wp2
    go_roundg zr.size
    case measure=>have:=KT.out;have:=HZ.out;omega
    exact⟨zr,f,ns++[y],_,rfl,rfl,KT.out.2,by rw[Vy.out];exact Qu.out,by rw[adf,aeM];exact Vz.out,gW.out⟩
   have hres:=kD.out;rw[adk he]at hres;subst hres
   have t9:((er:Int) !=0)=true:=by rw[adY];omega
   have HE:=ah he;clear he;go_wp2;go_ret
   exact⟨rfl,iT.bel,iT.big,_,_,iT.fG,fun h=>absurd h HE.out⟩
theorem aij (rest:ByteArray) (w0 w:World) (hs:rest.size<=1073741823)
  (hb:oI w0.heap.size w0 8 (.slice none 0 0) (.slice none 0 0) [] [] w):
  Calls Tryz.prog 121 #[.pointer (some ⟨w0.heap.size,0,none⟩),.string rest] w (TM w0.heap.size w0 8 [] (ak.lK (rest.size+1) rest.data.toList []).1 (ak.lK (rest.size+1) rest.data.toList []).2):=by
 obtain⟨R,hR⟩:=aj (ak.lK (rest.size+1) rest.data.toList []);rw[hR];have HR:=ah hR
 have HB:=ah hb;have hsi:(rest.size:Int)<=1073741823:=by omega
 clear hR hb;go_enter Tryz.func121,Tryz.ntmps121;go_wp2_with fail
 go_loopg [1] rest.size (fun g x wr=> ∃(z:ByteArray) (f:Nat) (ts:List (List UInt8)) (t:Value),x=.string z/\z.size=g/\z.size<f/\ak.lK f z.data.toList ts=R/\ts.length+z.size<=rest.size/\oI w0.heap.size w0 8 (.slice none 0 0) t [] ts wr)
 case atStart=>exact⟨rest,rest.size+1,[],.slice none 0 0,rfl,rfl,by omega,HR.out,by simp,HB.out⟩
 obtain⟨z,f,ts,t,rfl,hz,hf,hres,hnl,hrel⟩:=hrel;have HQ:=ah hrel
 obtain⟨As,cs,rfl⟩:=aF hrel.owt;have hbig:=hrel.big;obtain⟨a0,a1,a2,a3,a4,-⟩:=aU hrel.fG
 clear hrel;cases f with
 |zero=>omega
 |succ f=>
 unfold ak.lK at hres;cases gk with
 |zero=>
  have hzl:z.data.toList=[]:=adB (by rw[<-Lib.size_eq];exact hz)
  have t0:(z.toList ==[])=true:=by rw[Lib.toList_data,hzl];rfl
  have t1:(z.toList !=[])=false:=by rw[Lib.toList_data,hzl];rfl
  rw[adk hzl]at hres;subst hres;clear hzl hz hf;go_wp2;go_ret
  exact⟨rfl,HQ.bel,HQ.big,_,_,HQ.fG,fun _=>HQ.out⟩
 |succ g=>
  have hzl:z.data.toList≠ []:=fun e=>by have:=Lib.size_eq z;rw[e,ae8]at this;omega
  have t0:(z.toList ==[])=false:=by rw[Lib.toList_data];exact uU hzl
  have t1:(z.toList !=[])=true:=by rw[bne,t0];rfl
  rw[ade hzl]at hres;have hel:=ah7 z wr (by omega)
  cases hc:ak.elem z.data.toList [] with
  |none=>
   rw[hc]at hres hel;simp only at hres;simp only[elemV]at hel;subst hres
   have HC:=ah hel;clear hel hc hzl hz hf;go_wp2_with fail;refine HC.mono ?_
   rintro e w1 ⟨rfl,hb1⟩;have xK:=ah (HQ.below hb1);clear hb1;go_wp2;go_ret
   exact⟨rfl,xK.bel,xK.big,_,_,xK.fG,fun h=>by cases h⟩
  |some xr=>
   obtain⟨x,r⟩:=xr;rw[hc]at hres hel;simp only at hres;have hcs:=aif hc
   rw[<-Lib.size_eq]at hcs;simp only[elemV]at hel
   obtain⟨zx,hzx⟩:=aj (⟨x.toArray⟩:ByteArray);obtain⟨zr,qh⟩:=aj (⟨r.toArray⟩:ByteArray)
   have KR:zr.data.toList=r:=by rw[<-qh]
   have hzrs:zr.size=r.length:=by rw[<-qh];exact gq _
   rw[hzx,qh]at hel;have HC:=ah hel;have VA:=ah hzx;have Vy:=ah KR
   have KT:=ah (show zr.size<z.size/\zr.size<f by omega)
   have kD:=ah hres;have Vz:=ah (show ts.length+1+zr.size<=rest.size by omega)
   have AQ:ts.length<1073741824:=by omega
   have HZ:=ah hz;clear hel hcs hc hzx qh KR hzrs hzl hz hf hres hnl;go_wp2_with fail
   refine HC.mono ?_;rintro e w2 ⟨rfl,hb1⟩;have iT:=ah (HQ.below hb1)
   clear a0 a1 a2 a3 a4 hb1;obtain⟨a0,a1,a2,a3,a4,-⟩:=aU iT.fG;have hbg:=iT.big
   have zG:=(iT.fG.alloc (.cells #[.string zx] 9)).cell 4;simp at zG
   go_wp2_with (at_builtin;refine fD rfl (.tmp 31) (.tmp 33) 34 9 (.string ⟨#[]⟩) 16 Tryz.underlying34 TI rfl (by decide) rfl (w0.heap.size+1) (.slice As ts.length cs) ts.length _ w2 rfl iT.owt (.string zx) rfl rfl AQ hbg ?_)
   intro v9 w9 aJ bI dD aB;obtain⟨A9,c9,rfl⟩:=aF aJ
   obtain⟨d3,FD,hnx⟩:=iT.txt (y:=x) (by unfold ST;rw[VA.out];exact aJ) bI aB
   have gW:=ah hnx;clear aJ bI dD aB hnx zG a0 a1 a2 a3 a4;go_wp2
   go_roundg zr.size
   case measure=>have:=KT.out;have:=HZ.out;omega
   exact⟨zr,f,ts++[x],_,rfl,rfl,KT.out.2,by rw[Vy.out];exact kD.out,by rw[adf,aeM];exact Vz.out,gW.out⟩
end Go.Proofs.YtkdakckjafomhaaGreatDoor
