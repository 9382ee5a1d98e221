/- Contracts and plain laws,part 8. -/
import Derived.Test.YtkdakckjafomhaaGreatDoorUW07
import Derived.Deep.DeepCutAuto
import Derived.Deep.CutBlock
import Derived.Shelf.Lay
set_option maxHeartbeats 64000000
set_option maxRecDepth 1000000
set_option linter.all false
namespace Go.Proofs.YtkdakckjafomhaaGreatDoor
open Go.RowKit
theorem TB: ∀l:List UInt8,Num.jY l=none->Lib.indexAny l [112,109]= -1
 |[],_=>rfl
 |c :: r,h=>by
  simp only[Num.jY]at h
  split at h
  ·cases h
  rename_i hc
  have hr:Num.jY r=none:=by
   cases h2:Num.jY r with
   |none=>rfl
   |some x=>rw[h2]at h;cases h
  have hcon: [112,109].contains c=false:=by
   have h1:c≠112:=fun e=>hc (.inl e)
   have h2:c≠109:=fun e=>hc (.inr e)
   simp[h1,h2]
  simp only[Lib.indexAny,hcon,TB r hr];rfl
theorem TD: ∀(l u v:List UInt8),Num.jY l=some (u,v)->Lib.indexAny l [112,109]=u.length
 |[],u,v,h=>by simp[Num.jY]at h
 |c :: r,u,v,h=>by
  simp only[Num.jY]at h
  split at h
  ·rename_i hc
   simp only[aeK,afu]at h;obtain⟨rfl,rfl⟩:=h
   have hcon: [112,109].contains c=true:=by
    rcases hc with rfl|rfl<;>decide
   simp only[Lib.indexAny,hcon];rfl
  rename_i hc;cases h2:Num.jY r with
  |none=>rw[h2]at h;cases h
  |some x=>
   rw[h2]at h;simp only[afs,aeK,afu]at h;obtain⟨rfl,rfl⟩:=h
   have hcon: [112,109].contains c=false:=by
    have h1:c≠112:=fun e=>hc (.inl e)
    have h2:c≠109:=fun e=>hc (.inr e)
    simp[h1,h2]
   have ih:=TD r x.1 x.2 h2;simp only[Lib.indexAny,hcon,ih,adQ]
   have hne:(((x.1.length:Int)) == -1)=false:=by rw[adh];omega
   rw[hne];simp
def gQ (r:Option Nat) (w:World) (e:Ending) (w':World):Prop:=e=.returned (.tuple #[.int .u64 (r.getD 0:Nat),.int .i64 (if r.isSome then 0 else 52)])/\Below w.heap.size w w'
theorem gQ.none_ {r:Option Nat} {w w':World} (h:r=none) (hb:Below w.heap.size w w'):gQ r w (.returned (.tuple #[.int .u64 0,.int .i64 52])) w':=by
 subst h;exact⟨rfl,hb⟩
theorem gQ.some_ {r:Option Nat} {w w':World} {v:Int} {n:Nat} (h:r=some n) (hv:v=n) (hb:Below w.heap.size w w'):gQ r w (.returned (.tuple #[.int .u64 v,.int .i64 0])) w':=by
 subst h hv;exact⟨rfl,hb⟩
theorem Zj (a:Nat) (ha:a<9223372036854775808):bits BinOp.or IntKind.u64 9223372036854775808 (a:Int)=((9223372036854775808+a:Nat):Int):=by
 rw[show(9223372036854775808:Int)=((9223372036854775808:Nat):Int) from rfl,bits_or_u64_nat _ _ (by omega) (by omega)]
 congr 1
 have h:=anJ (i:=63) (b:=a) ha 1;rw[show(9223372036854775808:Nat)=2 ^ 63*1 from rfl,<-h]
theorem or_zero (a:Nat) (ha:a<18446744073709551616):bits BinOp.or IntKind.u64 0 (a:Int)=(a:Int):=by
 rw[show(0:Int)=((0:Nat):Int) from rfl,bits_or_u64_nat _ _ (by omega) (by omega),Nat.zero_or]
theorem Zk (a f:Nat) (hf:f<4503599627370496) (ha:a<4096):bits BinOp.or IntKind.u64 ((a*4503599627370496:Nat):Int) (f:Int)=((a*4503599627370496+f:Nat):Int):=by
 rw[bits_or_u64_nat _ _ (by omega) (by omega)]
 congr 1
 have h:=anJ (i:=52) (b:=f) hf a;rw[afV,show(4503599627370496:Nat)=2 ^ 52 from rfl,<-h]
theorem Zl (l:List UInt8):Lib.hasPrefix l [45]=decide (l.head?=some 45):=by
 unfold Lib.hasPrefix;cases l with
 |nil=>simp
 |cons c t=>
  simp only[List.isPrefixOf,apM,aoi,aeK];by_cases h:c=45
  ·subst h;decide
  rw[ac5 h]
  simpa using fun e=>h e.symm
theorem OW (j:Nat) (b:UInt8) (hj:((⟨#[112,109]⟩:ByteArray).data.toList)[j]?=some b):b.toNat<128:=by
 have:b∈([112,109]:List UInt8):=adI hj
 rcases aeY.1 this with rfl|h
 ·decide
 rw[ael.1 h];decide
theorem uU {l:List UInt8} {m:List UInt8} (h:l≠m):(l == m)=false:=by
 cases hq:l == m with
 |false=>rfl
 |true=>exact absurd (eq_of_beq hq) h
theorem amT (s:ByteArray) (w:World) (hs:s.size<=1073741824) (hL:Laid w) (fE:s.data.toList≠Num.pO) (hh:s.data.toList.head?=some 45):
  Calls Tryz.prog 171 #[.string s] w (gQ (Num.parse s.data.toList) w):=by
 have hcp:=Tryz.strings_CutPrefix s ⟨#[45]⟩ w
 have e45:(⟨#[45]⟩:ByteArray).data.toList=[45]:=rfl;rw[e45,Ti,Zl,adk hh,adb hh]at hcp
 have hp:Num.parse s.data.toList=(Num.jZ (s.data.toList.drop 1)).map (9223372036854775808+ ·):=by unfold Num.parse;rw[ade fE,adk hh]
 have hn1:(s.toList ==[48,120,110,97,110])=false:=by rw[Lib.toList_data];exact uU fE
 obtain⟨t,ht⟩:=aj (s.data.toList.drop 1)
 have htl:t.length<=1073741824:=by rw[<-ht,aej,<-Lib.size_eq];omega
 obtain⟨R,hR⟩:=aj (Num.parse s.data.toList);rw[hR];rw[hR,ht]at hp;rw[ht]at hcp
 obtain⟨z,hz⟩:=aj (⟨t.toArray⟩:ByteArray);have hzl:z.data.toList=t:=by rw[<-hz]
 have hzs:z.size=t.length:=by rw[<-hz,gq]
 rw[hz]at hcp;have KA:=hcp.mono fun e w' (h:_/\w'=w)=>(⟨h.1,h.2.symm⟩:_/\w=w')
 have dW:=ah KA;clear hcp KA e45 fE hh ht hR hz;by_cases dM:t=Num.rU
 ·have t1:(z.toList ==[48,120,105,110,102])=true:=by rw[Lib.toList_data,hzl,dM];rfl
  have hv:Num.jZ t=some 9218868437227405312:=by unfold Num.jZ;rw[adk dM]
  rw[hv]at hp;have HR:=ah hp
  have hor:bits BinOp.or IntKind.u64 9223372036854775808 9218868437227405312=18442240474082181120:=by decide
  clear hp hv dM hzl hzs htl;go_enter Tryz.func171,Tryz.ntmps171;go_wp2_with fail
  refine dW.mono ?_;rintro e w' ⟨rfl,rfl⟩;go_wp2
  go_ret2
  exact gQ.some_ HR.out (by rfl) (Below.refl _ _)
 have t1:(z.toList ==[48,120,105,110,102])=false:=by rw[Lib.toList_data,hzl];exact uU dM
 by_cases hzero:t=Num.ZERO
 ·have t2:(z.toList ==[48,120,48])=true:=by rw[Lib.toList_data,hzl,hzero];rfl
  have hv:Num.jZ t=some 0:=by unfold Num.jZ;rw[ade dM,adk hzero]
  rw[hv]at hp;have HR:=ah hp;clear hp hv dM hzero hzl hzs htl
  go_enter Tryz.func171,Tryz.ntmps171;go_wp2_with fail;refine dW.mono ?_
  rintro e w' ⟨rfl,rfl⟩;go_wp2
  go_ret2
  exact gQ.some_ HR.out (by rfl) (Below.refl _ _)
 have t2:(z.toList ==[48,120,48])=false:=by rw[Lib.toList_data,hzl];exact uU hzero
 have hv:Num.jZ t=match Num.pair t with|none=>none|some (f,e)=>if Num.fits f e then some (Num.bitsOf f e) else none:=by unfold Num.jZ;rw[ade dM,ade hzero];rfl
 rw[hv]at hp;clear hv dM hzero
 have hcp2:=(Tryz.strings_CutPrefix z ⟨#[48,120,49]⟩ w).mono fun e w' (h:_/\w'=w)=>(⟨h.1,h.2.symm⟩:_/\w=w')
 have e01:(⟨#[48,120,49]⟩:ByteArray).data.toList=[48,120,49]:=rfl;rw[hzl,e01]at hcp2
 cases hpre:Lib.hasPrefix t [48,120,49] with
 |false=>
  have xw:Num.pair t=none:=by unfold Num.pair;rw[hpre];rfl
  have htp:Lib.trimPrefix t [48,120,49]=t:=by unfold Lib.trimPrefix;rw[hpre];rfl
  rw[xw]at hp;rw[hpre,htp]at hcp2;have HR:=ah hp;have mY:=ah hcp2
  obtain⟨z3,hz3⟩:=aj (⟨t.toArray⟩:ByteArray);rw[hz3]at mY
  have hix:=Ij z3 ⟨#[112,109]⟩ w (by rw[<-hz3,gq];omega) (by decide) (by decide) (fun j b hj=>OW j b hj)
  obtain⟨ix,KC⟩:=aj (Lib.indexAny z3.data.toList (⟨#[112,109]⟩:ByteArray).data.toList)
  rw[KC]at hix;have mZ:=ah hix;clear hp xw htp hpre hcp2 hix KC hz3 hzl hzs htl e01
  go_enter Tryz.func171,Tryz.ntmps171;go_wp2_with fail;refine dW.mono ?_
  rintro e w' ⟨rfl,rfl⟩;go_wp2_with fail;refine mY.mono ?_;rintro e w' ⟨rfl,rfl⟩
  go_wp2_with fail;refine mZ.mono ?_;rintro e w1 ⟨rfl,hb1⟩;have HB1:=ah hb1;clear hb1
  go_wp2
  go_ret2
  exact gQ.none_ HR.out HB1.out
 |true=>
  obtain⟨q,hq⟩:=aj (t.drop 3)
  have htp:Lib.trimPrefix t [48,120,49]=q:=by unfold Lib.trimPrefix;rw[hpre,<-hq];rfl
  have IW:q.length<=1073741824:=by rw[<-hq,aej];omega
  have xw:Num.pair t=match Num.jY q with|none=>none|some (u,v)=>match Num.lJ u,Num.qG v with|some f,some e=>some (f,e)|_,_=>none:=by unfold Num.pair;rw[adk hpre,hq];rfl
  rw[xw]at hp;rw[hpre,htp]at hcp2;obtain⟨z3,hz3⟩:=aj (⟨q.toArray⟩:ByteArray)
  rw[hz3]at hcp2;have xA:z3.data.toList=q:=by rw[<-hz3]
  have Fv:z3.size=q.length:=by rw[<-hz3,gq]
  have mY:=ah hcp2
  have hix:=Ij z3 ⟨#[112,109]⟩ w (by omega) (by decide) (by decide) (fun j b hj=>OW j b hj)
  rw[xA]at hix;have KD:(⟨#[112,109]⟩:ByteArray).data.toList=[112,109]:=rfl
  rw[KD]at hix;clear htp xw hpre hcp2 hzl hzs htl hq hz3 e01 KD;cases hcut:Num.jY q with
  |none=>
   rw[hcut]at hp;rw[TB q hcut]at hix;have mZ:=ah hix;have HR:=ah hp
   clear hp hcut hix xA Fv IW;go_enter Tryz.func171,Tryz.ntmps171;go_wp2_with fail
   refine dW.mono ?_;rintro e w' ⟨rfl,rfl⟩;go_wp2_with fail;refine mY.mono ?_
   rintro e w' ⟨rfl,rfl⟩;go_wp2_with fail;refine mZ.mono ?_;rintro e w1 ⟨rfl,hb1⟩
   have HB1:=ah hb1;clear hb1;go_wp2
   go_ret2
   exact gQ.none_ HR.out HB1.out
  |some uv=>
   obtain⟨u,v⟩:=uv;rw[hcut]at hp
   dsimp only at hp
   rw[TD q u v hcut]at hix;have Au:=Num.Ox q u v hcut;obtain⟨m,hm⟩:=aj u.length
   rw[hm]at hix;have Fz:m+v.length=z3.size:=by rw[Fv,Au,adf,hm]
   have xu:(m:Int)<=z3.size:=by omega
   have hmz:m<=z3.size:=by omega
   obtain⟨zu,hzu⟩:=aj (z3.extract 0 m);obtain⟨zv,hzv⟩:=aj (z3.extract m z3.size)
   have FB:zu.data.toList=u:=by
    rw[<-hzu,Lib.extract_data,xA,Au];simp[<-hm]
   have FC:zv.data.toList=v:=by
    rw[<-hzv,Lib.extract_data,xA,Au,<-hm,ang];exact ado (by omega)
   have hfr:=fun W=>Zg zu W (by rw[Lib.size_eq,FB];omega)
   have hex:=fun W=>Zi zv W (by rw[Lib.size_eq,FC];omega)
   rw[FB]at hfr;rw[FC]at hex;have hz3b:(z3.size:Int)<=1073741824:=by omega
   have mZ:=ah hix;clear hix hcut Au hm FB FC xA Fv IW;cases hfg:Num.lJ u with
   |none=>
    rw[hfg]at hp hfr;have HR:Hid (R=none):=hp;have jB:=ah hfr;have HEX:=ah hex
    clear hp hfg hfr hex Fz;go_enter Tryz.func171,Tryz.ntmps171;go_wp2_with fail
    refine dW.mono ?_;rintro e w' ⟨rfl,rfl⟩;go_wp2_with fail;refine mY.mono ?_
    rintro e w' ⟨rfl,rfl⟩;go_wp2_with fail;refine mZ.mono ?_;rintro e w1 ⟨rfl,hb1⟩
    have HB1:=ah hb1;clear hb1;go_wp2_with fail;refine(jB.out _).mono ?_
    rintro e w' ⟨rfl,rfl⟩;go_wp2_with fail;refine(HEX.out w1).mono ?_
    rintro e w2 ⟨ev,rfl,hev,hb2⟩;have HB2:=ah (HB1.trans (hb2.mono HB1.size));clear hb2
    clear hev;go_wp2
    go_ret2
    exact gQ.none_ HR.out HB2.out
   |some f=>
    cases qN:Num.qG v with
    |none=>
     rw[hfg,qN]at hp;rw[hfg]at hfr;rw[qN]at hex;have HR:Hid (R=none):=hp
     have jB:=ah hfr;have HEX:=ah hex;clear hp hfg qN hfr hex Fz
     go_enter Tryz.func171,Tryz.ntmps171;go_wp2_with fail;refine dW.mono ?_
     rintro e w' ⟨rfl,rfl⟩;go_wp2_with fail;refine mY.mono ?_;rintro e w' ⟨rfl,rfl⟩
     go_wp2_with fail;refine mZ.mono ?_;rintro e w1 ⟨rfl,hb1⟩;have HB1:=ah hb1;clear hb1
     go_wp2_with fail;refine(jB.out _).mono ?_;rintro e w' ⟨rfl,rfl⟩;go_wp2_with fail
     refine(HEX.out w1).mono ?_;rintro e w2 ⟨ev,rfl,hev,hb2⟩
     have HB2:=ah (HB1.trans (hb2.mono HB1.size));clear hb2;clear hev;go_wp2
     go_ret2
     exact gQ.none_ HR.out HB2.out
    |some e0=>
     obtain⟨-,KE⟩:=Num.SC hfg;obtain⟨-,he1,he2⟩:=Num.SK qN;rw[hfg,qN]at hp
     rw[hfg]at hfr;rw[qN]at hex;have jB:=ah hfr;have HEX:=ah hex
     have hp2:R=(if Num.fits f e0 then some (Num.bitsOf f e0) else none).map (9223372036854775808+ ·):=hp
     clear hfg qN hfr hex Fz hp
     have lY:=ah (fun(W:World) (hb:Below w.heap.size w W)=>hL.below hb)
     clear hL;by_cases hge: -1022<=e0
     ·rw[adk (.inl hge)]at hp2
      obtain⟨x,hx⟩: ∃x:Nat,e0+1023=x:=⟨(e0+1023).toNat,by omega⟩
      have kC:Num.bitsOf f e0=x*4503599627370496+f:=by unfold Num.bitsOf;rw[adk hge,hx];rfl
      rw[kC]at hp2;have hx1:(1:Int)<=x:=by omega
      have hx2:(x:Int)<=2046:=by omega
      have ho1:bits BinOp.or IntKind.u64 9223372036854775808 ((x:Int)*4503599627370496)=(2048+(x:Int))*4503599627370496:=by
       rw[show(x:Int)*4503599627370496=((x*4503599627370496:Nat):Int) by omega,Zj _ (by omega)]
       omega
      have ho2:bits BinOp.or IntKind.u64 ((2048+(x:Int))*4503599627370496) (f:Int)=(2048+(x:Int))*4503599627370496+f:=by
       have h:=Zk (2048+x) f KE (by omega)
       rw[show(((2048+x)*4503599627370496:Nat):Int)=(2048+(x:Int))*4503599627370496 by omega]at h
       rw[h];omega
      have HR:=ah hp2;clear hp2 kC;go_enter Tryz.func171,Tryz.ntmps171;go_wp2_with fail
      refine dW.mono ?_;rintro e w' ⟨rfl,rfl⟩;go_wp2_with fail;refine mY.mono ?_
      rintro e w' ⟨rfl,rfl⟩;go_wp2_with fail;refine mZ.mono ?_;rintro e w1 ⟨rfl,hb1⟩
      have HB1:=ah hb1;clear hb1;go_wp2_with fail;refine(jB.out _).mono ?_
      rintro e w' ⟨rfl,rfl⟩;go_wp2_with fail;refine(HEX.out w1).mono ?_
      rintro e w2 ⟨ev,rfl,hev,hb2⟩;have HB2:=ah (HB1.trans (hb2.mono HB1.size));clear hb2
      obtain rfl:ev=e0:=hev e0 rfl;clear hev;go_wp2
      go_ret2
      refine gQ.some_ (v:=(2048+(x:Int))*4503599627370496+f) (n:=9223372036854775808+(x*4503599627370496+f)) HR.out ?_ HB2.out
      omega
     obtain⟨d,hdd⟩: ∃d:Nat,-1022 - e0=d:=⟨(-1022 - e0).toNat,by omega⟩
     obtain⟨F,hF⟩:=aj (f+4503599627370496);have hor:=or_one f KE;rw[hF]at hor
     have hd1:(1:Int)<=d:=by omega
     have hd2:(d:Int)<=52:=by omega
     have hF2:(F:Int)<=9007199254740992:=by omega
     have hF1:F≠0:=by omega
     have hfit:Num.fits f e0↔d<=Lib.ctz 64 F:=by
      unfold Num.fits;rw[show(-1022 - e0).toNat=d by omega,anc,hF]
      exact⟨fun h=>h.resolve_left hge,fun h=> .inr h⟩
     have kC:Num.bitsOf f e0=F / 2 ^ d:=by
      unfold Num.bitsOf;rw[ade hge,show(-1022 - e0).toNat=d by omega,anc,hF]
     have hge':e0< -1022:=by omega
     have amU:decide (-1022<=e0)=false:=ac5 hge;obtain⟨ct,hct⟩:=aj (Lib.ctz 64 F)
     have KF:=ah (fun(W:World) (hb:Below w.heap.size w W)=>hct▸Tt F hF1 (by omega) W (lY.out W hb))
     rw[hct]at hfit;rw[kC]at hp2;by_cases hlt:ct<d
     ·have hr:R=none:=by rw[hp2,ade (fun h=>by have:=hfit.1 h;omega)];rfl
      have HR:=ah hr;have hlt':(ct:Int)<d:=by omega
      clear hp2 hr hfit kC hct hF hF1;go_enter Tryz.func171,Tryz.ntmps171;go_wp2_with fail
      refine dW.mono ?_;rintro e w' ⟨rfl,rfl⟩;go_wp2_with fail;refine mY.mono ?_
      rintro e w' ⟨rfl,rfl⟩;go_wp2_with fail;refine mZ.mono ?_;rintro e w1 ⟨rfl,hb1⟩
      have HB1:=ah hb1;clear hb1;go_wp2_with fail;refine(jB.out _).mono ?_
      rintro e w' ⟨rfl,rfl⟩;go_wp2_with fail;refine(HEX.out w1).mono ?_
      rintro e w2 ⟨ev,rfl,hev,hb2⟩;have HB2:=ah (HB1.trans (hb2.mono HB1.size));clear hb2
      obtain rfl:ev=e0:=hev e0 rfl;clear hev;go_wp2_with fail
      refine(KF.out w2 HB2.out).mono ?_;rintro e w' ⟨rfl,rfl⟩;go_wp2
      go_ret2
      exact gQ.none_ HR.out HB2.out
     have hr:R=some (9223372036854775808+F / 2 ^ d):=by rw[hp2,adk (hfit.2 (by omega))];rfl
     have HR:=ah hr;have hlt': ¬(ct:Int)<d:=by omega
     have amV:(d:Int)<=ct:=by omega
     have hnd:decide (ct<d)=false:=ac5 hlt;have hq:F / 2 ^ d<=F:=aql _ _;have HQ:=ah hq
     clear hp2 hr hfit kC hct hF hF1 hq;go_enter Tryz.func171,Tryz.ntmps171
     go_wp2_with fail;refine dW.mono ?_;rintro e w' ⟨rfl,rfl⟩;go_wp2_with fail
     refine mY.mono ?_;rintro e w' ⟨rfl,rfl⟩;go_wp2_with fail;refine mZ.mono ?_
     rintro e w1 ⟨rfl,hb1⟩;have HB1:=ah hb1;clear hb1;go_wp2_with fail
     refine(jB.out _).mono ?_;rintro e w' ⟨rfl,rfl⟩;go_wp2_with fail
     refine(HEX.out w1).mono ?_;rintro e w2 ⟨ev,rfl,hev,hb2⟩
     have HB2:=ah (HB1.trans (hb2.mono HB1.size));clear hb2;obtain rfl:ev=e0:=hev e0 rfl
     clear hev;go_wp2_with fail;refine(KF.out w2 HB2.out).mono ?_;rintro e w' ⟨rfl,rfl⟩
     go_wp2
     go_ret2
     refine gQ.some_ (v:=bits BinOp.or IntKind.u64 9223372036854775808 ((F:Int) / 2 ^ d)) (n:=9223372036854775808+F / 2 ^ d) HR.out ?_ HB2.out
     rw[show(F:Int) / 2 ^ d=((F / 2 ^ d:Nat):Int) by simp]
     have hq:=HQ.out;exact Zj _ (by omega)
theorem amW (s:ByteArray) (w:World) (hs:s.size<=1073741824) (hL:Laid w) (fE:s.data.toList≠Num.pO) (hh:s.data.toList.head?≠some 45):
  Calls Tryz.prog 171 #[.string s] w (gQ (Num.parse s.data.toList) w):=by
 have hcp:=Tryz.strings_CutPrefix s ⟨#[45]⟩ w
 have e45:(⟨#[45]⟩:ByteArray).data.toList=[45]:=rfl;rw[e45,Ti,Zl,ade hh,ac5 hh]at hcp
 have hp:Num.parse s.data.toList=Num.jZ s.data.toList:=by unfold Num.parse;rw[ade fE,ade hh]
 have hn1:(s.toList ==[48,120,110,97,110])=false:=by rw[Lib.toList_data];exact uU fE
 obtain⟨t,ht⟩:=aj s.data.toList
 have htl:t.length<=1073741824:=by rw[<-ht,<-Lib.size_eq];omega
 obtain⟨R,hR⟩:=aj (Num.parse s.data.toList);rw[hR];rw[hR,ht]at hp;rw[ht]at hcp
 obtain⟨z,hz⟩:=aj (⟨t.toArray⟩:ByteArray);have hzl:z.data.toList=t:=by rw[<-hz]
 have hzs:z.size=t.length:=by rw[<-hz,gq]
 rw[hz]at hcp;have KA:=hcp.mono fun e w' (h:_/\w'=w)=>(⟨h.1,h.2.symm⟩:_/\w=w')
 have dW:=ah KA;clear hcp KA e45 fE hh ht hR hz;by_cases dM:t=Num.rU
 ·have t1:(z.toList ==[48,120,105,110,102])=true:=by rw[Lib.toList_data,hzl,dM];rfl
  have hv:Num.jZ t=some 9218868437227405312:=by unfold Num.jZ;rw[adk dM]
  rw[hv]at hp;have HR:=ah hp
  have hor:bits BinOp.or IntKind.u64 0 9218868437227405312=9218868437227405312:=by decide
  clear hp hv dM hzl hzs htl;go_enter Tryz.func171,Tryz.ntmps171;go_wp2_with fail
  refine dW.mono ?_;rintro e w' ⟨rfl,rfl⟩;go_wp2
  go_ret2
  exact gQ.some_ HR.out (by rfl) (Below.refl _ _)
 have t1:(z.toList ==[48,120,105,110,102])=false:=by rw[Lib.toList_data,hzl];exact uU dM
 by_cases hzero:t=Num.ZERO
 ·have t2:(z.toList ==[48,120,48])=true:=by rw[Lib.toList_data,hzl,hzero];rfl
  have hv:Num.jZ t=some 0:=by unfold Num.jZ;rw[ade dM,adk hzero]
  rw[hv]at hp;have HR:=ah hp;clear hp hv dM hzero hzl hzs htl
  go_enter Tryz.func171,Tryz.ntmps171;go_wp2_with fail;refine dW.mono ?_
  rintro e w' ⟨rfl,rfl⟩;go_wp2
  go_ret2
  exact gQ.some_ HR.out (by rfl) (Below.refl _ _)
 have t2:(z.toList ==[48,120,48])=false:=by rw[Lib.toList_data,hzl];exact uU hzero
 have hv:Num.jZ t=match Num.pair t with|none=>none|some (f,e)=>if Num.fits f e then some (Num.bitsOf f e) else none:=by unfold Num.jZ;rw[ade dM,ade hzero];rfl
 rw[hv]at hp;clear hv dM hzero
 have hcp2:=(Tryz.strings_CutPrefix z ⟨#[48,120,49]⟩ w).mono fun e w' (h:_/\w'=w)=>(⟨h.1,h.2.symm⟩:_/\w=w')
 have e01:(⟨#[48,120,49]⟩:ByteArray).data.toList=[48,120,49]:=rfl;rw[hzl,e01]at hcp2
 cases hpre:Lib.hasPrefix t [48,120,49] with
 |false=>
  have xw:Num.pair t=none:=by unfold Num.pair;rw[hpre];rfl
  have htp:Lib.trimPrefix t [48,120,49]=t:=by unfold Lib.trimPrefix;rw[hpre];rfl
  rw[xw]at hp;rw[hpre,htp]at hcp2;have HR:=ah hp;have mY:=ah hcp2
  obtain⟨z3,hz3⟩:=aj (⟨t.toArray⟩:ByteArray);rw[hz3]at mY
  have hix:=Ij z3 ⟨#[112,109]⟩ w (by rw[<-hz3,gq];omega) (by decide) (by decide) (fun j b hj=>OW j b hj)
  obtain⟨ix,KC⟩:=aj (Lib.indexAny z3.data.toList (⟨#[112,109]⟩:ByteArray).data.toList)
  rw[KC]at hix;have mZ:=ah hix;clear hp xw htp hpre hcp2 hix KC hz3 hzl hzs htl e01
  go_enter Tryz.func171,Tryz.ntmps171;go_wp2_with fail;refine dW.mono ?_
  rintro e w' ⟨rfl,rfl⟩;go_wp2_with fail;refine mY.mono ?_;rintro e w' ⟨rfl,rfl⟩
  go_wp2_with fail;refine mZ.mono ?_;rintro e w1 ⟨rfl,hb1⟩;have HB1:=ah hb1;clear hb1
  go_wp2
  go_ret2
  exact gQ.none_ HR.out HB1.out
 |true=>
  obtain⟨q,hq⟩:=aj (t.drop 3)
  have htp:Lib.trimPrefix t [48,120,49]=q:=by unfold Lib.trimPrefix;rw[hpre,<-hq];rfl
  have IW:q.length<=1073741824:=by rw[<-hq,aej];omega
  have xw:Num.pair t=match Num.jY q with|none=>none|some (u,v)=>match Num.lJ u,Num.qG v with|some f,some e=>some (f,e)|_,_=>none:=by unfold Num.pair;rw[adk hpre,hq];rfl
  rw[xw]at hp;rw[hpre,htp]at hcp2;obtain⟨z3,hz3⟩:=aj (⟨q.toArray⟩:ByteArray)
  rw[hz3]at hcp2;have xA:z3.data.toList=q:=by rw[<-hz3]
  have Fv:z3.size=q.length:=by rw[<-hz3,gq]
  have mY:=ah hcp2
  have hix:=Ij z3 ⟨#[112,109]⟩ w (by omega) (by decide) (by decide) (fun j b hj=>OW j b hj)
  rw[xA]at hix;have KD:(⟨#[112,109]⟩:ByteArray).data.toList=[112,109]:=rfl
  rw[KD]at hix;clear htp xw hpre hcp2 hzl hzs htl hq hz3 e01 KD;cases hcut:Num.jY q with
  |none=>
   rw[hcut]at hp;rw[TB q hcut]at hix;have mZ:=ah hix;have HR:=ah hp
   clear hp hcut hix xA Fv IW;go_enter Tryz.func171,Tryz.ntmps171;go_wp2_with fail
   refine dW.mono ?_;rintro e w' ⟨rfl,rfl⟩;go_wp2_with fail;refine mY.mono ?_
   rintro e w' ⟨rfl,rfl⟩;go_wp2_with fail;refine mZ.mono ?_;rintro e w1 ⟨rfl,hb1⟩
   have HB1:=ah hb1;clear hb1;go_wp2
   go_ret2
   exact gQ.none_ HR.out HB1.out
  |some uv=>
   obtain⟨u,v⟩:=uv;rw[hcut]at hp
   dsimp only at hp
   rw[TD q u v hcut]at hix;have Au:=Num.Ox q u v hcut;obtain⟨m,hm⟩:=aj u.length
   rw[hm]at hix;have Fz:m+v.length=z3.size:=by rw[Fv,Au,adf,hm]
   have xu:(m:Int)<=z3.size:=by omega
   have hmz:m<=z3.size:=by omega
   obtain⟨zu,hzu⟩:=aj (z3.extract 0 m);obtain⟨zv,hzv⟩:=aj (z3.extract m z3.size)
   have FB:zu.data.toList=u:=by
    rw[<-hzu,Lib.extract_data,xA,Au];simp[<-hm]
   have FC:zv.data.toList=v:=by
    rw[<-hzv,Lib.extract_data,xA,Au,<-hm,ang];exact ado (by omega)
   have hfr:=fun W=>Zg zu W (by rw[Lib.size_eq,FB];omega)
   have hex:=fun W=>Zi zv W (by rw[Lib.size_eq,FC];omega)
   rw[FB]at hfr;rw[FC]at hex;have hz3b:(z3.size:Int)<=1073741824:=by omega
   have mZ:=ah hix;clear hix hcut Au hm FB FC xA Fv IW;cases hfg:Num.lJ u with
   |none=>
    rw[hfg]at hp hfr;have HR:Hid (R=none):=hp;have jB:=ah hfr;have HEX:=ah hex
    clear hp hfg hfr hex Fz;go_enter Tryz.func171,Tryz.ntmps171;go_wp2_with fail
    refine dW.mono ?_;rintro e w' ⟨rfl,rfl⟩;go_wp2_with fail;refine mY.mono ?_
    rintro e w' ⟨rfl,rfl⟩;go_wp2_with fail;refine mZ.mono ?_;rintro e w1 ⟨rfl,hb1⟩
    have HB1:=ah hb1;clear hb1;go_wp2_with fail;refine(jB.out _).mono ?_
    rintro e w' ⟨rfl,rfl⟩;go_wp2_with fail;refine(HEX.out w1).mono ?_
    rintro e w2 ⟨ev,rfl,hev,hb2⟩;have HB2:=ah (HB1.trans (hb2.mono HB1.size));clear hb2
    clear hev;go_wp2
    go_ret2
    exact gQ.none_ HR.out HB2.out
   |some f=>
    cases qN:Num.qG v with
    |none=>
     rw[hfg,qN]at hp;rw[hfg]at hfr;rw[qN]at hex;have HR:Hid (R=none):=hp
     have jB:=ah hfr;have HEX:=ah hex;clear hp hfg qN hfr hex Fz
     go_enter Tryz.func171,Tryz.ntmps171;go_wp2_with fail;refine dW.mono ?_
     rintro e w' ⟨rfl,rfl⟩;go_wp2_with fail;refine mY.mono ?_;rintro e w' ⟨rfl,rfl⟩
     go_wp2_with fail;refine mZ.mono ?_;rintro e w1 ⟨rfl,hb1⟩;have HB1:=ah hb1;clear hb1
     go_wp2_with fail;refine(jB.out _).mono ?_;rintro e w' ⟨rfl,rfl⟩;go_wp2_with fail
     refine(HEX.out w1).mono ?_;rintro e w2 ⟨ev,rfl,hev,hb2⟩
     have HB2:=ah (HB1.trans (hb2.mono HB1.size));clear hb2;clear hev;go_wp2
     go_ret2
     exact gQ.none_ HR.out HB2.out
    |some e0=>
     obtain⟨-,KE⟩:=Num.SC hfg;obtain⟨-,he1,he2⟩:=Num.SK qN;rw[hfg,qN]at hp
     rw[hfg]at hfr;rw[qN]at hex;have jB:=ah hfr;have HEX:=ah hex
     have hp2:R=(if Num.fits f e0 then some (Num.bitsOf f e0) else none):=hp
     clear hfg qN hfr hex Fz hp
     have lY:=ah (fun(W:World) (hb:Below w.heap.size w W)=>hL.below hb)
     clear hL;by_cases hge: -1022<=e0
     ·rw[adk (.inl hge)]at hp2
      obtain⟨x,hx⟩: ∃x:Nat,e0+1023=x:=⟨(e0+1023).toNat,by omega⟩
      have kC:Num.bitsOf f e0=x*4503599627370496+f:=by unfold Num.bitsOf;rw[adk hge,hx];rfl
      rw[kC]at hp2;have hx1:(1:Int)<=x:=by omega
      have hx2:(x:Int)<=2046:=by omega
      have ho1:bits BinOp.or IntKind.u64 0 ((x:Int)*4503599627370496)=(x:Int)*4503599627370496:=by
       rw[show(x:Int)*4503599627370496=((x*4503599627370496:Nat):Int) by omega,or_zero _ (by omega)]
       skip
      have ho2:bits BinOp.or IntKind.u64 ((x:Int)*4503599627370496) (f:Int)=(x:Int)*4503599627370496+f:=by
       have h:=Zk (x) f KE (by omega)
       rw[show(((x)*4503599627370496:Nat):Int)=(x:Int)*4503599627370496 by omega]at h
       rw[h];omega
      have HR:=ah hp2;clear hp2 kC;go_enter Tryz.func171,Tryz.ntmps171;go_wp2_with fail
      refine dW.mono ?_;rintro e w' ⟨rfl,rfl⟩;go_wp2_with fail;refine mY.mono ?_
      rintro e w' ⟨rfl,rfl⟩;go_wp2_with fail;refine mZ.mono ?_;rintro e w1 ⟨rfl,hb1⟩
      have HB1:=ah hb1;clear hb1;go_wp2_with fail;refine(jB.out _).mono ?_
      rintro e w' ⟨rfl,rfl⟩;go_wp2_with fail;refine(HEX.out w1).mono ?_
      rintro e w2 ⟨ev,rfl,hev,hb2⟩;have HB2:=ah (HB1.trans (hb2.mono HB1.size));clear hb2
      obtain rfl:ev=e0:=hev e0 rfl;clear hev;go_wp2
      go_ret2
      refine gQ.some_ (v:=(x:Int)*4503599627370496+f) (n:=x*4503599627370496+f) HR.out ?_ HB2.out
      omega
     obtain⟨d,hdd⟩: ∃d:Nat,-1022 - e0=d:=⟨(-1022 - e0).toNat,by omega⟩
     obtain⟨F,hF⟩:=aj (f+4503599627370496);have hor:=or_one f KE;rw[hF]at hor
     have hd1:(1:Int)<=d:=by omega
     have hd2:(d:Int)<=52:=by omega
     have hF2:(F:Int)<=9007199254740992:=by omega
     have hF1:F≠0:=by omega
     have hfit:Num.fits f e0↔d<=Lib.ctz 64 F:=by
      unfold Num.fits;rw[show(-1022 - e0).toNat=d by omega,anc,hF]
      exact⟨fun h=>h.resolve_left hge,fun h=> .inr h⟩
     have kC:Num.bitsOf f e0=F / 2 ^ d:=by
      unfold Num.bitsOf;rw[ade hge,show(-1022 - e0).toNat=d by omega,anc,hF]
     have hge':e0< -1022:=by omega
     have amU:decide (-1022<=e0)=false:=ac5 hge;obtain⟨ct,hct⟩:=aj (Lib.ctz 64 F)
     have KF:=ah (fun(W:World) (hb:Below w.heap.size w W)=>hct▸Tt F hF1 (by omega) W (lY.out W hb))
     rw[hct]at hfit;rw[kC]at hp2;by_cases hlt:ct<d
     ·have hr:R=none:=by rw[hp2,ade (fun h=>by have:=hfit.1 h;omega)]
      have HR:=ah hr;have hlt':(ct:Int)<d:=by omega
      clear hp2 hr hfit kC hct hF hF1;go_enter Tryz.func171,Tryz.ntmps171;go_wp2_with fail
      refine dW.mono ?_;rintro e w' ⟨rfl,rfl⟩;go_wp2_with fail;refine mY.mono ?_
      rintro e w' ⟨rfl,rfl⟩;go_wp2_with fail;refine mZ.mono ?_;rintro e w1 ⟨rfl,hb1⟩
      have HB1:=ah hb1;clear hb1;go_wp2_with fail;refine(jB.out _).mono ?_
      rintro e w' ⟨rfl,rfl⟩;go_wp2_with fail;refine(HEX.out w1).mono ?_
      rintro e w2 ⟨ev,rfl,hev,hb2⟩;have HB2:=ah (HB1.trans (hb2.mono HB1.size));clear hb2
      obtain rfl:ev=e0:=hev e0 rfl;clear hev;go_wp2_with fail
      refine(KF.out w2 HB2.out).mono ?_;rintro e w' ⟨rfl,rfl⟩;go_wp2
      go_ret2
      exact gQ.none_ HR.out HB2.out
     have hr:R=some (F / 2 ^ d):=by rw[hp2,adk (hfit.2 (by omega))]
     have HR:=ah hr;have hlt': ¬(ct:Int)<d:=by omega
     have amV:(d:Int)<=ct:=by omega
     have hnd:decide (ct<d)=false:=ac5 hlt;have hq:F / 2 ^ d<=F:=aql _ _;have HQ:=ah hq
     clear hp2 hr hfit kC hct hF hF1 hq;go_enter Tryz.func171,Tryz.ntmps171
     go_wp2_with fail;refine dW.mono ?_;rintro e w' ⟨rfl,rfl⟩;go_wp2_with fail
     refine mY.mono ?_;rintro e w' ⟨rfl,rfl⟩;go_wp2_with fail;refine mZ.mono ?_
     rintro e w1 ⟨rfl,hb1⟩;have HB1:=ah hb1;clear hb1;go_wp2_with fail
     refine(jB.out _).mono ?_;rintro e w' ⟨rfl,rfl⟩;go_wp2_with fail
     refine(HEX.out w1).mono ?_;rintro e w2 ⟨ev,rfl,hev,hb2⟩
     have HB2:=ah (HB1.trans (hb2.mono HB1.size));clear hb2;obtain rfl:ev=e0:=hev e0 rfl
     clear hev;go_wp2_with fail;refine(KF.out w2 HB2.out).mono ?_;rintro e w' ⟨rfl,rfl⟩
     go_wp2
     go_ret2
     refine gQ.some_ (v:=bits BinOp.or IntKind.u64 0 ((F:Int) / 2 ^ d)) (n:=F / 2 ^ d) HR.out ?_ HB2.out
     rw[show(F:Int) / 2 ^ d=((F / 2 ^ d:Nat):Int) by simp]
     have hq:=HQ.out;exact or_zero _ (by omega)
namespace Lex
end Lex
theorem byte_le (c:UInt8):(c.toNat:Int)<=255:=by have:=anZ c;omega
theorem OX {s:ByteArray} {k:Nat} (h:k<s.size):s.data.toList.drop k=s[k] :: s.data.toList.drop (k+1):=by
 have h1:k<s.data.toList.length:=by rw[<-Lib.size_eq];exact h
 rw[aez h1];rfl
end Go.Proofs.YtkdakckjafomhaaGreatDoor
namespace Go.Proofs
open Go.Shelf
def Tryz.OY:Go.Shelf.Ren:=⟨fun|166=>65|167=>69|240=>104|276=>151|169=>66|n=>n,fun|0=>0|3=>3|4=>4|5=>5|9=>9|20=>20|37=>124|70=>123|72=>126|75=>129|80=>132|164=>210|127=>167|n=>n,fun|n=>n⟩
theorem Tryz.bld166:Go.Proofs.Lays.n166 Tryz.prog Tryz.OY:=by
 repeat' first|kernel_rfl|exact fun _=>rfl|constructor
theorem Tryz.bld167:Go.Proofs.Lays.n167 Tryz.prog Tryz.OY:=by
 repeat' first|kernel_rfl|exact fun _=>rfl|constructor
theorem Tryz.bld169:Go.Proofs.Lays.n169 Tryz.prog Tryz.OY:=by
 repeat' first|kernel_rfl|exact fun _=>rfl|constructor
theorem Tryz.TF:Builder.Extra Tryz.prog Tryz.OY:={
 sizeBuilder:=by kernel_rfl
 liesBuilder:=by kernel_rfl
 t5:=Tryz.underlying5
 a5:=Tryz.isAgg5
 z5:=Tryz.sizeOf5
 v5:=Tryz.zeroValue5
 infoByte:=by kernel_rfl
 cellsByte:=by kernel_rfl
 sizeByte:=by kernel_rfl
 neB5:=by decide}
end Go.Proofs
namespace Go.Proofs.YtkdakckjafomhaaGreatDoor
open Go.RowKit
def dP (B b:Nat) (l:List UInt8) (w:World):Prop:=Lib.IsBuilderF 126 5 B b (Lib.byteCells l) w
theorem dP.fresh (w:World):dP w.heap.size w.heap.size [] (w.alloc (.cells #[.pointer none,.slice none 0 0] 126)):=
 Lib.IsBuilderF.of (Lib.fresh_isBuilder _ _ w)
theorem ahF (s:ByteArray):Lib.strCells s=Lib.byteCells s.data.toList:=by
 rfl
theorem Zm (a b:List UInt8):Lib.byteCells (a++b)=Lib.byteCells a++Lib.byteCells b:=by
 simp[Lib.byteCells]
theorem OZ {T e B b g:Nat} {q:Value} {bs:List Value} {w w':World} (h:Lib.BuilderAtF T e B b q bs w) (hg:w.grownBy w' (some g)) (h1:b≠g) (h2: ∀v,w.ownsRowF B e 1 v bs.length bs->v.ownBlock≠some g):Lib.BuilderAtF T e B b q bs w':=by
 obtain⟨hB,v,hb,hown,hne⟩:=h;have hlt:b<w.heap.size:=(adZ.1 hb).1
 exact⟨hB,v,(hg.block b hlt (by simpa using h1)).trans hb,hown.kept hg (.inr (h2 v hown)),hne⟩
theorem dP.Zn {B b g:Nat} {l:List UInt8} {w w':World} (h:dP B b l w) (hg:w.grownBy w' (some g)) (hlt:g<B):dP B b l w':=by
 have key: ∀v,w.ownsRowF B 5 1 v (Lib.byteCells l).length (Lib.byteCells l)->v.ownBlock≠some g:=fun v hv e=>by have:=(hv.lt g e).1;omega
 have hb: ∀{T e q bs},Lib.BuilderAtF T e B b q bs w->b≠g:=fun h=>by have:=h.1;omega
 exact h.imp (fun x=>OZ x hg (hb x) key) (fun x=>OZ x hg (hb x) key)
theorem dP.below {B b:Nat} {l:List UInt8} {w w':World} (h:dP B b l w) (hb:Below w.heap.size w w'):dP B b l w':=by
 have hg:w.grownBy w' (some w.heap.size):=⟨hb.os,hb.tape,hb.output,hb.size,fun i hi _=>hb.block i hi⟩
 have hlt: ∀{T e q bs},Lib.BuilderAtF T e B b q bs w->b≠w.heap.size:=fun h=>by
  obtain⟨_,v,hb,_⟩:=h;have:=(adZ.1 hb).1;omega
 have key: ∀v,w.ownsRowF B 5 1 v (Lib.byteCells l).length (Lib.byteCells l)->v.ownBlock≠some w.heap.size:=fun v hv e=>by have:=(hv.lt _ e).2;omega
 exact h.imp (fun x=>OZ x hg (hlt x) key) (fun x=>OZ x hg (hlt x) key)
theorem grownBy_set (w:World) (p:Addr) (v:Value):w.grownBy (w.setCell p v) (some p.block):=
 ⟨rfl,rfl,rfl,by simp[World.setCell],fun k _ hne=>Below.heap_setCell w p v k (fun e=>hne (by rw[e]))⟩
theorem EW (B b:Nat) (l:List UInt8) (c:Int) (w:World) (h:dP B b l w) (h0:0<=c) (h1:c<256) (hlen:l.length<1073741824) (hB:B<=w.heap.size):
  Calls Tryz.prog 69 #[.pointer (some ⟨b,0,none⟩),.int .u8 c] w fun e w'=>e=.returned .nilIface/\dP B b (l++[c.toNat.toUInt8]) w'/\Below B w w'/\Lib.OthersKept 5 (some b) w w':=by
 refine(Any.Builder_WriteByte_k Tryz.bld167 Tryz.TF B b _ c w h (by rw[Lib.byteCells_length];omega) hB).mono fun e w' ⟨he,hb,h2,h3⟩=>⟨he, ?_,h2,h3⟩
 unfold dP;rw[Zm]
 have e:Lib.byteCells [c.toNat.toUInt8]=[.int .u8 c]:=by
  have:c.toNat % 256=c.toNat:=Nat.mod_eq_of_lt (by omega)
  simp[Lib.byteCells,this,Int.toNat_of_nonneg h0]
 rw[e];exact .inr hb
theorem uf (B b:Nat) (l:List UInt8) (s:ByteArray) (w:World) (h:dP B b l w) (hs:s.size<1073741824) (hlen:l.length<1073741824) (hB:B<=w.heap.size):
  Calls Tryz.prog 65 #[.pointer (some ⟨b,0,none⟩),.string s] w fun e w'=>e=.returned (.tuple #[.int .i64 s.size,.nilIface])/\dP B b (l++s.data.toList) w'/\Below B w w'/\Lib.OthersKept 5 (some b) w w':=by
 refine(Any.Builder_WriteString_k Tryz.bld166 Tryz.TF B b _ s w h (by rw[Lib.byteCells_length];omega) hB).mono fun e w' ⟨he,hb,h2,h3⟩=>⟨he, ?_,h2,h3⟩
 unfold dP;rw[Zm,<-ahF];exact .inr hb
theorem EX (B b:Nat) (l:List UInt8) (w:World) (h:dP B b l w) (hB:B<=w.heap.size):
  Calls Tryz.prog 66 #[.pointer (some ⟨b,0,none⟩)] w fun e w'=>e=.returned (.string ⟨l.toArray⟩)/\dP B b l w'/\Below B w w'/\Lib.OthersKept 5 (some b) w w':=
 Any.Builder_String_any_k Tryz.bld169 Tryz.TF B b l w h hB
theorem byte_back (c:UInt8):((c.toNat:Int)).toNat.toUInt8=c:=by simp
theorem ahG: ∀c:Fin 256,∀d∈Num.jr (UInt8.ofNat c.val),d<16:=by decide+kernel
theorem Ic {c:UInt8} {d:Nat} (h:Num.jr c=some d):d<16:=
 ahG ⟨c.toNat,anZ c⟩ d (by simpa using h)
theorem bq {c:UInt8} {k:UInt8} {n:Int} (hn:(k.toNat:Int)=n) {b:Bool} (h:(c == k)=b):((c.toNat:Int) == n)=b:=by
 rw[<-h,<-hn,agn,aeI,aeI,<-afi];omega
theorem Zo {s:ByteArray} {k:Nat} (h:k<s.size):s.data.toList[k]?=some (s[k]'h):=by
 have h1:k<s.data.toList.length:=by rw[<-Lib.size_eq];exact h
 rw[dF h1];rfl
theorem ahH (s:ByteArray) (w:World) (hs:s.size<=1073741824) (hL:Laid w):
  Calls Tryz.prog 171 #[.string s] w (gQ (Num.parse s.data.toList) w):=by
 by_cases hn:s.data.toList=Num.pO
 ·have t1:(s.toList ==[48,120,110,97,110])=true:=by rw[Lib.toList_data,hn];rfl
  have hp:Num.parse s.data.toList=some 9221120237041090560:=by unfold Num.parse;rw[adk hn]
  rw[hp];clear hp hn hL;go_enter Tryz.func171,Tryz.ntmps171;go_wp2
  go_ret2
  exact⟨rfl,Below.refl _ _⟩
 by_cases hh:s.data.toList.head?=some 45
 ·exact amT s w hs hL hn hh
 exact amW s w hs hL hn hh
theorem au.cast {W:World} {g:Nat} {T:TypeId} {cs cs':Array Value} (h:au W g T cs) (e:cs=cs'):au W g T cs':=e▸h
theorem O1 (b off j:Nat):(⟨b,off,none⟩:Addr).add j=⟨b,off+j,none⟩:=by
 unfold Addr.add
 split<;>simp_all
section
variable {P:Program} (w:World)
theorem ahI (base:Nat) (t ty e:TypeId) (i:TypeInfo) (size:Nat) (ht:P.underlying t=some (.slice e)) (hi:P.info? e=some i)
  (v:Value) (n:Nat) (xs:List Value) (hown:w.ownsRow base e size v n xs) (c:Nat):(Builtin.append_ #[t,t] ty #[v,.slice none 0 c]).run P w=.ok v w:=by
 rcases hown.2 with⟨rfl,rfl⟩|⟨g,cap,cur,rfl,_,_,hnc,_⟩
 ·simp[Builtin.append_,run_underlying ht,sizeOf,typeInfo,hi,Builtin.lenOf,Builtin.firstCells]
 simp[Builtin.append_,run_underlying ht,sizeOf,typeInfo,hi,Builtin.lenOf,Builtin.firstCells,hnc,storeCells]
theorem ahJ (base:Nat) (t ty e:TypeId) (i:TypeInfo) (z:Value) (size bytes:Nat) (ht:P.underlying t=some (.slice e)) (hi:P.info? e=some i) (hz:i.zero=some z)
  (hsize:i.size=size) (hby:i.bytes=bytes) (hzs:z.cells.size=size) (hsz:0<size)
  (v:Value) (n:Nat) (xs:List Value) (hown:w.ownsRow base e size v n xs)
  (B:Nat) (A:Option Addr) (m c:Nat) (news:List Value) (hr:Reads w B size A m news) (h1: ∀u∈news,u.oneCell'=true)
  (h63:n+m<=maxLen) (hbytes:(n+m)*bytes<=140737488355328) (hbase:base<=w.heap.size):
  ∃v' w',(Builtin.append_ #[t,t] ty #[v,.slice A m c]).run P w=.ok v' w'/\w'.ownsRow base e size v' (n+m) (xs++news)/\w.grownBy w' v.ownBlock/\
   (v'.ownBlock=v.ownBlock\/v'.ownBlock=some w.heap.size):=by
 rcases A with _|ad
 ·have hm:m=0:=by
   rcases afv m with h0|h0
   ·exact h0
   obtain⟨_,_,h,_⟩:=hr.2 h0;cases h
  subst hm;have hn:news=[]:=adB (by simpa using hr.1)
  subst hn
  exact⟨v,w,ahI w base t ty e i size ht hi v n xs hown c,by simpa using hown,World.grownBy.refl w _,.inl rfl⟩
 have hcells: ∀j u,news[j]?=some u->w.cell? (ad.add j)=some u:=by
  intro j u hu
  rcases afv m with h0|h0
  ·subst h0
   have hn:news=[]:=adB (by simpa using hr.1)
   subst hn;simp at hu
  obtain⟨b',off',h,_,hc⟩:=hr.2 h0;cases h;rw[O1];exact hc j u hu
 obtain⟨v',w',hrun,h2,h3,_,h5⟩:=run_append_own_at (P:=P) w base t ty e i z size bytes ht hi hz hsize hby hzs hsz v n xs hown ad m c news hr.1 hcells h1 h63 hbytes hbase
 exact⟨v',w',hrun,h2,h3,h5⟩
theorem Zp {o:Oper} {a:Act} {K:Act->World->Prop} {Q:Exit->Act->World->Prop} (s x:Operand) (t:TypeId)
  (ho:o.op=.call {callee:=.builtin .append,args:= #[s,x],argTypes:= #[t,t]})
  (base:Nat) (e:TypeId) (i:TypeInfo) (z:Value) (size bytes:Nat) (ht:P.underlying t=some (.slice e)) (hi:P.info? e=some i) (hz:i.zero=some z)
  (hsize:i.size=size) (hby:i.bytes=bytes) (hzs:z.cells.size=size) (hsz:0<size)
  (v:Value) (n:Nat) (xs:List Value) (hs:a.eval s=v) (hown:w.ownsRow base e size v n xs)
  (B:Nat) (A:Option Addr) (m c:Nat) (news:List Value) (hx:a.eval x=.slice A m c) (hr:Reads w B size A m news) (h1: ∀u∈news,u.oneCell'=true)
  (h63:n+m<=maxLen) (hbytes:(n+m)*bytes<=140737488355328) (hbase:base<=w.heap.size)
  (h: ∀v' w',w'.ownsRow base e size v' (n+m) (xs++news)->w.grownBy w' v.ownBlock->(v'.ownBlock=v.ownBlock\/v'.ownBlock=some w.heap.size)->K (a.put o.dst v') w'):o.wp P a w K Q:=by
 obtain⟨v',w',hrun,h2,h3,h4⟩:=ahJ (P:=P) w base t o.type e i z size bytes ht hi hz hsize hby hzs hsz v n xs hown B A m c news hr h1 h63 hbytes hbase
 unfold Oper.wp execOp
 simp only[ho,resolve,invoke,builtin,Sem.run_bind,Sem.run_pure,Result.andThen_ok,ard,aeR,afX,hs,hx,hrun]
 exact h v' w' h2 h3 h4
theorem y5 {ops:Array Oper} {rest:List Oper} {o:Oper} {a:Act} {Q:Exit->Act->World->Prop} (hgd:o.guard=none) (s x:Operand) (t:TypeId)
  (ho:o.op=.call {callee:=.builtin .append,args:= #[s,x],argTypes:= #[t,t]})
  (base:Nat) (e:TypeId) (i:TypeInfo) (z:Value) (size bytes:Nat) (ht:P.underlying t=some (.slice e)) (hi:P.info? e=some i) (hz:i.zero=some z)
  (hsize:i.size=size) (hby:i.bytes=bytes) (hzs:z.cells.size=size) (hsz:0<size)
  (v:Value) (n:Nat) (xs:List Value) (hs:a.eval s=v) (hown:w.ownsRow base e size v n xs)
  (B:Nat) (A:Option Addr) (m c:Nat) (news:List Value) (hx:a.eval x=.slice A m c) (hr:Reads w B size A m news) (h1: ∀u∈news,u.oneCell'=true)
  (h63:n+m<=maxLen) (hbytes:(n+m)*bytes<=140737488355328) (hbase:base<=w.heap.size)
  (h: ∀v' w',w'.ownsRow base e size v' (n+m) (xs++news)->w.grownBy w' v.ownBlock->(v'.ownBlock=v.ownBlock\/v'.ownBlock=some w.heap.size)->wpList P ops Q rest (a.put o.dst v') w'):wpList P ops Q (o :: rest) a w:=
 wpList_plain hgd fun _ hK=>Zp w s x t ho base e i z size bytes ht hi hz hsize hby hzs hsz v n xs hs hown B A m c news hx hr h1 h63 hbytes hbase fun v' w' h2 h3 h4=>hK _ _ (h v' w' h2 h3 h4)
end
theorem y7 (w:World) (base e _cap:Nat) (cs:Array Value) (hb:base<=w.heap.size) (h:cs.size=0):(w.alloc (.cells cs e)).ownsRow base e 1 (.slice (some ⟨w.heap.size,0,none⟩) 0 0) 0 []:=
 World.ownsRow_made w cs 0 hb (by unfold maxLen;omega) (by omega)
end Go.Proofs.YtkdakckjafomhaaGreatDoor
