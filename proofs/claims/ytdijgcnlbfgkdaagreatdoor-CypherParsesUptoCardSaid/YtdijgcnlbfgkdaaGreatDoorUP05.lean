/- Lemmas. -/
import Derived.Test.YtdijgcnlbfgkdaaGreatDoorUP04
set_option maxHeartbeats 64000000
set_option maxRecDepth 1000000
set_option linter.all false
namespace Go.Proofs.YtdijgcnlbfgkdaaGreatDoor
open Go.RowKit Go.Proofs.Tryz
def Ui: ∀l:List UInt8,Num.kR l=none->Lib.indexAny l [112,109]= -1
 |[],_=>rfl
 |c :: r,h=>by
  simp only[Num.kR]at h
  split at h
  ·cases h
  rename_i hc
  have hr:Num.kR r=none:=by
   cases h2:Num.kR r with
   |none=>rfl
   |some x=>rw[h2]at h;cases h
  have hcon: [112,109].contains c=false:=by
   have h1:c≠112:=fun e=>hc (.inl e)
   have h2:c≠109:=fun e=>hc (.inr e)
   simp[h1,h2]
  simp only[Lib.indexAny,hcon,Ui r hr];rfl
def Uj: ∀(l u v:List UInt8),Num.kR l=some (u,v)->Lib.indexAny l [112,109]=u.length
 |[],u,v,h=>by simp[Num.kR]at h
 |c :: r,u,v,h=>by
  simp only[Num.kR]at h
  split at h
  ·rename_i hc
   simp only[afs,anM]at h;obtain⟨rfl,rfl⟩:=h
   have hcon: [112,109].contains c=true:=by
    rcases hc with rfl|rfl<;>decide
   simp only[Lib.indexAny,hcon];rfl
  rename_i hc;cases h2:Num.kR r with
  |none=>rw[h2]at h;cases h
  |some x=>
   rw[h2]at h;simp only[afX,afs,anM]at h;obtain⟨rfl,rfl⟩:=h
   have hcon: [112,109].contains c=false:=by
    have h1:c≠112:=fun e=>hc (.inl e)
    have h2:c≠109:=fun e=>hc (.inr e)
    simp[h1,h2]
   have ih:=Uj r x.1 x.2 h2;simp only[Lib.indexAny,hcon,ih,ae7];have hne:(((x.1.length:Int)) == -1)=false:=by rw[aek];omega
   rw[hne];simp
def iE (r:Option Nat) (w:World) (e:Ending) (w':World):Prop:=e=.returned (.tuple #[.int .u64 (r.getD 0:Nat),.int .i64 (if r.isSome then 0 else 52)])/\Below w.heap.size w w'
def iE.none_ {r:Option Nat} {w w':World} (h:r=none) (hb:Below w.heap.size w w'):iE r w (.returned (.tuple #[.int .u64 0,.int .i64 52])) w':=by
 subst h;exact⟨rfl,hb⟩
def iE.some_ {r:Option Nat} {w w':World} {v:Int} {n:Nat} (h:r=some n) (hv:v=n) (hb:Below w.heap.size w w'):iE r w (.returned (.tuple #[.int .u64 v,.int .i64 0])) w':=by
 subst h hv;exact⟨rfl,hb⟩
def aaO (a:Nat) (ha:a<9223372036854775808):bits BinOp.or IntKind.u64 9223372036854775808 (a:Int)=((9223372036854775808+a:Nat):Int):=by
 rw[show(9223372036854775808:Int)=((9223372036854775808:Nat):Int) from rfl,atc _ _ (by omega) (by omega)]
 congr 1
 have h:=aor (i:=63) (b:=a) ha 1;rw[show(9223372036854775808:Nat)=2 ^ 63*1 from rfl,<-h]
def or_zero (a:Nat) (ha:a<18446744073709551616):bits BinOp.or IntKind.u64 0 (a:Int)=(a:Int):=by
 rw[show(0:Int)=((0:Nat):Int) from rfl,atc _ _ (by omega) (by omega),Nat.zero_or]
def aaP (a f:Nat) (hf:f<4503599627370496) (ha:a<4096):bits BinOp.or IntKind.u64 ((a*4503599627370496:Nat):Int) (f:Int)=((a*4503599627370496+f:Nat):Int):=by
 rw[atc _ _ (by omega) (by omega)]
 congr 1
 have h:=aor (i:=52) (b:=f) hf a;rw[ahe,show(4503599627370496:Nat)=2 ^ 52 from rfl,<-h]
def aaQ (l:List UInt8):Lib.hasPrefix l [45]=decide (l.head?=some 45):=by
 unfold Lib.hasPrefix;cases l with
 |nil=>simp
 |cons c t=>
  simp only[List.isPrefixOf,ap4,aoP,afs];by_cases h:c=45
  ·subst h;decide
  rw[dF h]
  simpa using fun e=>h e.symm
def PS (j:Nat) (b:UInt8) (hj:((⟨#[112,109]⟩:ByteArray).data.toList)[j]?=some b):b.toNat<128:=by
 have:b∈([112,109]:List UInt8):=aew hj
 rcases aga.1 this with rfl|h
 ·decide
 rw[afm.1 h];decide
def zO {l:List UInt8} {m:List UInt8} (h:l≠m):(l == m)=false:=by
 cases hq:l == m with
 |false=>rfl
 |true=>exact absurd (eq_of_beq hq) h
def anx (s:ByteArray) (w:World) (hs:s.size<=1073741824) (hL:Laid w) (qL:s.data.toList≠Num.um) (hh:s.data.toList.head?=some 45):
  Calls prog 186 #[.string s] w (iE (Num.parse s.data.toList) w):=by
 have hcp:=Tryz.strings_CutPrefix s ⟨#[45]⟩ w;have e45:(⟨#[45]⟩:ByteArray).data.toList=[45]:=rfl;rw[e45,Pz,aaQ,aeu hh,aei hh]at hcp;have hp:Num.parse s.data.toList=(Num.kS (s.data.toList.drop 1)).map (9223372036854775808+ ·):=by unfold Num.parse;rw[aer qL,aeu hh]
 have hn1:(s.toList ==[48,120,110,97,110])=false:=by rw[aod];exact zO qL
 obtain⟨t,ht⟩:=aj (s.data.toList.drop 1);have htl:t.length<=1073741824:=by rw[<-ht,ae1,<-aof];omega
 obtain⟨R,hR⟩:=aj (Num.parse s.data.toList);rw[hR];rw[hR,ht]at hp;rw[ht]at hcp;obtain⟨z,hz⟩:=aj (⟨t.toArray⟩:ByteArray);have hzl:z.data.toList=t:=by rw[<-hz]
 have hzs:z.size=t.length:=by rw[<-hz,dR]
 rw[hz]at hcp;have LC:=hcp.mono fun e w' (h:_/\w'=w)=>(⟨h.1,h.2.symm⟩:_/\w=w')
 have eU:=ah LC;clear hcp LC e45 qL hh ht hR hz;by_cases jF:t=Num.xX
 ·have t1:(z.toList ==[48,120,105,110,102])=true:=by rw[aod,hzl,jF];rfl
  have hv:Num.kS t=some 9218868437227405312:=by unfold Num.kS;rw[aeu jF]
  rw[hv]at hp;have HR:=ah hp;have hor:bits BinOp.or IntKind.u64 9223372036854775808 9218868437227405312=18442240474082181120:=by decide
  clear hp hv jF hzl hzs htl;go_enter func186,ntmps186;go_wp2_with fail;refine iq8 eU ?_;go_wp2
  go_ret2
  exact iE.some_ HR.out (by rfl) (aoa _ _)
 have t1:(z.toList ==[48,120,105,110,102])=false:=by rw[aod,hzl];exact zO jF
 by_cases hzero:t=Num.ZERO
 ·have t2:(z.toList ==[48,120,48])=true:=by rw[aod,hzl,hzero];rfl
  have hv:Num.kS t=some 0:=by unfold Num.kS;rw[aer jF,aeu hzero]
  rw[hv]at hp;have HR:=ah hp;clear hp hv jF hzero hzl hzs htl;go_enter func186,ntmps186;go_wp2_with fail;refine iq8 eU ?_;go_wp2
  go_ret2
  exact iE.some_ HR.out (by rfl) (aoa _ _)
 have t2:(z.toList ==[48,120,48])=false:=by rw[aod,hzl];exact zO hzero
 have hv:Num.kS t=match Num.pair t with|none=>none|some (f,e)=>if Num.fits f e then some (Num.bitsOf f e) else none:=by unfold Num.kS;rw[aer jF,aer hzero];rfl
 rw[hv]at hp;clear hv jF hzero;have hcp2:=(Tryz.strings_CutPrefix z ⟨#[48,120,49]⟩ w).mono fun e w' (h:_/\w'=w)=>(⟨h.1,h.2.symm⟩:_/\w=w')
 have e01:(⟨#[48,120,49]⟩:ByteArray).data.toList=[48,120,49]:=rfl;rw[hzl,e01]at hcp2;cases hpre:Lib.hasPrefix t [48,120,49] with
 |false=>
  have yC:Num.pair t=none:=by unfold Num.pair;rw[hpre];rfl
  have htp:Lib.trimPrefix t [48,120,49]=t:=by unfold Lib.trimPrefix;rw[hpre];rfl
  rw[yC]at hp;rw[hpre,htp]at hcp2;have HR:=ah hp;have oD:=ah hcp2;obtain⟨z3,hz3⟩:=aj (⟨t.toArray⟩:ByteArray);rw[hz3]at oD;have hix:=PO z3 ⟨#[112,109]⟩ w (by rw[<-hz3,dR];omega) (by decide) (by decide) (fun j b hj=>PS j b hj)
  obtain⟨ix,LD⟩:=aj (Lib.indexAny z3.data.toList (⟨#[112,109]⟩:ByteArray).data.toList);rw[LD]at hix;have jG:=ah hix;clear hp yC htp hpre hcp2 hix LD hz3 hzl hzs htl e01;go_enter func186,ntmps186;go_wp2_with fail;refine iq8 eU ?_;go_wp2_with fail;refine iq8 oD ?_;go_wp2_with fail;refine mq8 jG fun w1 hb1=>?_;have HB1:=ah hb1;clear hb1;go_wp2
  go_ret2
  exact iE.none_ HR.out HB1.out
 |true=>
  obtain⟨q,hq⟩:=aj (t.drop 3);have htp:Lib.trimPrefix t [48,120,49]=q:=by unfold Lib.trimPrefix;rw[hpre,<-hq];rfl
  have Ej:q.length<=1073741824:=by rw[<-hq,ae1];omega
  have yC:Num.pair t=match Num.kR q with|none=>none|some (u,v)=>match Num.mV u,Num.sN v with|some f,some e=>some (f,e)|_,_=>none:=by unfold Num.pair;rw[aeu hpre,hq];rfl
  rw[yC]at hp;rw[hpre,htp]at hcp2;obtain⟨z3,hz3⟩:=aj (⟨q.toArray⟩:ByteArray);rw[hz3]at hcp2;have yD:z3.data.toList=q:=by rw[<-hz3]
  have Gf:z3.size=q.length:=by rw[<-hz3,dR]
  have oD:=ah hcp2;have hix:=PO z3 ⟨#[112,109]⟩ w (by omega) (by decide) (by decide) (fun j b hj=>PS j b hj)
  rw[yD]at hix;have LG:(⟨#[112,109]⟩:ByteArray).data.toList=[112,109]:=rfl;rw[LG]at hix;clear htp yC hpre hcp2 hzl hzs htl hq hz3 e01 LG;cases hcut:Num.kR q with
  |none=>
   rw[hcut]at hp;rw[Ui q hcut]at hix;have jG:=ah hix;have HR:=ah hp;clear hp hcut hix yD Gf Ej;go_enter func186,ntmps186;go_wp2_with fail;refine iq8 eU ?_;go_wp2_with fail;refine iq8 oD ?_;go_wp2_with fail;refine mq8 jG fun w1 hb1=>?_;have HB1:=ah hb1;clear hb1;go_wp2
   go_ret2
   exact iE.none_ HR.out HB1.out
  |some uv=>
   obtain⟨u,v⟩:=uv;rw[hcut]at hp
   dsimp only at hp
   rw[Uj q u v hcut]at hix;have BO:=Num.Pj q u v hcut;obtain⟨m,hm⟩:=aj u.length;rw[hm]at hix;have BP:m+v.length=z3.size:=by rw[Gf,BO,aeo,hm]
   have BN:(m:Int)<=z3.size:=by omega
   have hmz:m<=z3.size:=by omega
   obtain⟨zu,hzu⟩:=aj (z3.extract 0 m);obtain⟨zv,hzv⟩:=aj (z3.extract m z3.size)
   have Gg:zu.data.toList=u:=by
    rw[<-hzu,aso,yD,BO];simp[<-hm]
   have Gh:zv.data.toList=v:=by
    rw[<-hzv,aso,yD,BO,<-hm,aoK];exact aeG (by omega)
   have hfr:=fun W=>aaL zu W (by rw[aof,Gg];omega)
   have hex:=fun W=>aaN zv W (by rw[aof,Gh];omega)
   rw[Gg]at hfr;rw[Gh]at hex;have hz3b:(z3.size:Int)<=1073741824:=by omega
   have jG:=ah hix;clear hix hcut BO hm Gg Gh yD Gf Ej;cases hfg:Num.mV u with
   |none=>
    rw[hfg]at hp hfr;have HR:Hid (R=none):=hp;have pR:=ah hfr;have HEX:=ah hex;clear hp hfg hfr hex BP;go_enter func186,ntmps186;go_wp2_with fail;refine iq8 eU ?_;go_wp2_with fail;refine iq8 oD ?_;go_wp2_with fail;refine mq8 jG fun w1 hb1=>?_;have HB1:=ah hb1;clear hb1;go_wp2_with fail;refine iq7 (pR.out _) ?_;go_wp2_with fail;refine(HEX.out w1).mono ?_;rintro e w2 ⟨ev,rfl,hev,hb2⟩;have HB2:=ah (HB1.trans (hb2.mono HB1.size));clear hb2;clear hev;go_wp2
    go_ret2
    exact iE.none_ HR.out HB2.out
   |some f=>
    cases sW:Num.sN v with
    |none=>
     rw[hfg,sW]at hp;rw[hfg]at hfr;rw[sW]at hex;have HR:Hid (R=none):=hp;have pR:=ah hfr;have HEX:=ah hex;clear hp hfg sW hfr hex BP;go_enter func186,ntmps186;go_wp2_with fail;refine iq8 eU ?_;go_wp2_with fail;refine iq8 oD ?_;go_wp2_with fail;refine mq8 jG fun w1 hb1=>?_;have HB1:=ah hb1;clear hb1;go_wp2_with fail;refine iq7 (pR.out _) ?_;go_wp2_with fail;refine(HEX.out w1).mono ?_;rintro e w2 ⟨ev,rfl,hev,hb2⟩;have HB2:=ah (HB1.trans (hb2.mono HB1.size));clear hb2;clear hev;go_wp2
     go_ret2
     exact iE.none_ HR.out HB2.out
    |some e0=>
     obtain⟨-,LH⟩:=Num.TL hfg;obtain⟨-,he1,he2⟩:=Num.TQ sW;rw[hfg,sW]at hp;rw[hfg]at hfr;rw[sW]at hex;have pR:=ah hfr;have HEX:=ah hex;have hp2:R=(if Num.fits f e0 then some (Num.bitsOf f e0) else none).map (9223372036854775808+ ·):=hp
     clear hfg sW hfr hex BP hp;have Jf:=ah (fun(W:World) (hb:Below w.heap.size w W)=>hL.below hb)
     clear hL;by_cases hge: -1022<=e0
     ·rw[aeu (.inl hge)]at hp2
      obtain⟨x,hx⟩: ∃x:Nat,e0+1023=x:=⟨(e0+1023).toNat,by omega⟩
      have rO:Num.bitsOf f e0=x*4503599627370496+f:=by unfold Num.bitsOf;rw[aeu hge,hx];rfl
      rw[rO]at hp2;have hx1:(1:Int)<=x:=by omega
      have hx2:(x:Int)<=2046:=by omega
      have ho1:bits BinOp.or IntKind.u64 9223372036854775808 ((x:Int)*4503599627370496)=(2048+(x:Int))*4503599627370496:=by
       rw[show(x:Int)*4503599627370496=((x*4503599627370496:Nat):Int) by omega,aaO _ (by omega)]
       omega
      have ho2:bits BinOp.or IntKind.u64 ((2048+(x:Int))*4503599627370496) (f:Int)=(2048+(x:Int))*4503599627370496+f:=by
       have h:=aaP (2048+x) f LH (by omega)
       rw[show(((2048+x)*4503599627370496:Nat):Int)=(2048+(x:Int))*4503599627370496 by omega]at h
       rw[h];omega
      have HR:=ah hp2;clear hp2 rO;go_enter func186,ntmps186;go_wp2_with fail;refine iq8 eU ?_;go_wp2_with fail;refine iq8 oD ?_;go_wp2_with fail;refine mq8 jG fun w1 hb1=>?_;have HB1:=ah hb1;clear hb1;go_wp2_with fail;refine iq7 (pR.out _) ?_;go_wp2_with fail;refine(HEX.out w1).mono ?_;rintro e w2 ⟨ev,rfl,hev,hb2⟩;have HB2:=ah (HB1.trans (hb2.mono HB1.size));clear hb2;obtain rfl:ev=e0:=hev e0 rfl;clear hev;go_wp2
      go_ret2
      refine iE.some_ (v:=(2048+(x:Int))*4503599627370496+f) (n:=9223372036854775808+(x*4503599627370496+f)) HR.out ?_ HB2.out;omega
     obtain⟨d,hdd⟩: ∃d:Nat,-1022 - e0=d:=⟨(-1022 - e0).toNat,by omega⟩
     obtain⟨F,hF⟩:=aj (f+4503599627370496);have hor:=or_one f LH;rw[hF]at hor;have hd1:(1:Int)<=d:=by omega
     have hd2:(d:Int)<=52:=by omega
     have hF2:(F:Int)<=9007199254740992:=by omega
     have hF1:F≠0:=by omega
     have hfit:Num.fits f e0↔d<=Lib.ctz 64 F:=by
      unfold Num.fits;rw[show(-1022 - e0).toNat=d by omega,an8,hF]
      exact⟨fun h=>h.resolve_left hge,fun h=> .inr h⟩
     have rO:Num.bitsOf f e0=F / 2 ^ d:=by
      unfold Num.bitsOf;rw[aer hge,show(-1022 - e0).toNat=d by omega,an8,hF]
     have hge':e0< -1022:=by omega
     have anz:decide (-1022<=e0)=false:=dF hge;obtain⟨ct,hct⟩:=aj (Lib.ctz 64 F);have LM:=ah (fun(W:World) (hb:Below w.heap.size w W)=>hct▸aaG F hF1 (by omega) W (Jf.out W hb))
     rw[hct]at hfit;rw[rO]at hp2;by_cases hlt:ct<d
     ·have hr:R=none:=by rw[hp2,aer (fun h=>by have:=hfit.1 h;omega)];rfl
      have HR:=ah hr;have hlt':(ct:Int)<d:=by omega
      clear hp2 hr hfit rO hct hF hF1;go_enter func186,ntmps186;go_wp2_with fail;refine iq8 eU ?_;go_wp2_with fail;refine iq8 oD ?_;go_wp2_with fail;refine mq8 jG fun w1 hb1=>?_;have HB1:=ah hb1;clear hb1;go_wp2_with fail;refine iq7 (pR.out _) ?_;go_wp2_with fail;refine(HEX.out w1).mono ?_;rintro e w2 ⟨ev,rfl,hev,hb2⟩;have HB2:=ah (HB1.trans (hb2.mono HB1.size));clear hb2;obtain rfl:ev=e0:=hev e0 rfl;clear hev;go_wp2_with fail;refine iq7 (LM.out w2 HB2.out) ?_;go_wp2
      go_ret2
      exact iE.none_ HR.out HB2.out
     have hr:R=some (9223372036854775808+F / 2 ^ d):=by rw[hp2,aeu (hfit.2 (by omega))];rfl
     have HR:=ah hr;have hlt': ¬(ct:Int)<d:=by omega
     have anA:(d:Int)<=ct:=by omega
     have hnd:decide (ct<d)=false:=dF hlt;have hq:F / 2 ^ d<=F:=arN _ _;have HQ:=ah hq;clear hp2 hr hfit rO hct hF hF1 hq;go_enter func186,ntmps186;go_wp2_with fail;refine iq8 eU ?_;go_wp2_with fail;refine iq8 oD ?_;go_wp2_with fail;refine mq8 jG fun w1 hb1=>?_;have HB1:=ah hb1;clear hb1;go_wp2_with fail;refine iq7 (pR.out _) ?_;go_wp2_with fail;refine(HEX.out w1).mono ?_;rintro e w2 ⟨ev,rfl,hev,hb2⟩;have HB2:=ah (HB1.trans (hb2.mono HB1.size));clear hb2;obtain rfl:ev=e0:=hev e0 rfl;clear hev;go_wp2_with fail;refine iq7 (LM.out w2 HB2.out) ?_;go_wp2
     go_ret2
     refine iE.some_ (v:=bits BinOp.or IntKind.u64 9223372036854775808 ((F:Int) / 2 ^ d)) (n:=9223372036854775808+F / 2 ^ d) HR.out ?_ HB2.out;rw[show(F:Int) / 2 ^ d=((F / 2 ^ d:Nat):Int) by simp]
     have hq:=HQ.out;exact aaO _ (by omega)
def anB (s:ByteArray) (w:World) (hs:s.size<=1073741824) (hL:Laid w) (qL:s.data.toList≠Num.um) (hh:s.data.toList.head?≠some 45):
  Calls prog 186 #[.string s] w (iE (Num.parse s.data.toList) w):=by
 have hcp:=Tryz.strings_CutPrefix s ⟨#[45]⟩ w;have e45:(⟨#[45]⟩:ByteArray).data.toList=[45]:=rfl;rw[e45,Pz,aaQ,aer hh,dF hh]at hcp;have hp:Num.parse s.data.toList=Num.kS s.data.toList:=by unfold Num.parse;rw[aer qL,aer hh]
 have hn1:(s.toList ==[48,120,110,97,110])=false:=by rw[aod];exact zO qL
 obtain⟨t,ht⟩:=aj s.data.toList;have htl:t.length<=1073741824:=by rw[<-ht,<-aof];omega
 obtain⟨R,hR⟩:=aj (Num.parse s.data.toList);rw[hR];rw[hR,ht]at hp;rw[ht]at hcp;obtain⟨z,hz⟩:=aj (⟨t.toArray⟩:ByteArray);have hzl:z.data.toList=t:=by rw[<-hz]
 have hzs:z.size=t.length:=by rw[<-hz,dR]
 rw[hz]at hcp;have LC:=hcp.mono fun e w' (h:_/\w'=w)=>(⟨h.1,h.2.symm⟩:_/\w=w')
 have eU:=ah LC;clear hcp LC e45 qL hh ht hR hz;by_cases jF:t=Num.xX
 ·have t1:(z.toList ==[48,120,105,110,102])=true:=by rw[aod,hzl,jF];rfl
  have hv:Num.kS t=some 9218868437227405312:=by unfold Num.kS;rw[aeu jF]
  rw[hv]at hp;have HR:=ah hp;have hor:bits BinOp.or IntKind.u64 0 9218868437227405312=9218868437227405312:=by decide
  clear hp hv jF hzl hzs htl;go_enter func186,ntmps186;go_wp2_with fail;refine iq8 eU ?_;go_wp2
  go_ret2
  exact iE.some_ HR.out (by rfl) (aoa _ _)
 have t1:(z.toList ==[48,120,105,110,102])=false:=by rw[aod,hzl];exact zO jF
 by_cases hzero:t=Num.ZERO
 ·have t2:(z.toList ==[48,120,48])=true:=by rw[aod,hzl,hzero];rfl
  have hv:Num.kS t=some 0:=by unfold Num.kS;rw[aer jF,aeu hzero]
  rw[hv]at hp;have HR:=ah hp;clear hp hv jF hzero hzl hzs htl;go_enter func186,ntmps186;go_wp2_with fail;refine iq8 eU ?_;go_wp2
  go_ret2
  exact iE.some_ HR.out (by rfl) (aoa _ _)
 have t2:(z.toList ==[48,120,48])=false:=by rw[aod,hzl];exact zO hzero
 have hv:Num.kS t=match Num.pair t with|none=>none|some (f,e)=>if Num.fits f e then some (Num.bitsOf f e) else none:=by unfold Num.kS;rw[aer jF,aer hzero];rfl
 rw[hv]at hp;clear hv jF hzero;have hcp2:=(Tryz.strings_CutPrefix z ⟨#[48,120,49]⟩ w).mono fun e w' (h:_/\w'=w)=>(⟨h.1,h.2.symm⟩:_/\w=w')
 have e01:(⟨#[48,120,49]⟩:ByteArray).data.toList=[48,120,49]:=rfl;rw[hzl,e01]at hcp2;cases hpre:Lib.hasPrefix t [48,120,49] with
 |false=>
  have yC:Num.pair t=none:=by unfold Num.pair;rw[hpre];rfl
  have htp:Lib.trimPrefix t [48,120,49]=t:=by unfold Lib.trimPrefix;rw[hpre];rfl
  rw[yC]at hp;rw[hpre,htp]at hcp2;have HR:=ah hp;have oD:=ah hcp2;obtain⟨z3,hz3⟩:=aj (⟨t.toArray⟩:ByteArray);rw[hz3]at oD;have hix:=PO z3 ⟨#[112,109]⟩ w (by rw[<-hz3,dR];omega) (by decide) (by decide) (fun j b hj=>PS j b hj)
  obtain⟨ix,LD⟩:=aj (Lib.indexAny z3.data.toList (⟨#[112,109]⟩:ByteArray).data.toList);rw[LD]at hix;have jG:=ah hix;clear hp yC htp hpre hcp2 hix LD hz3 hzl hzs htl e01;go_enter func186,ntmps186;go_wp2_with fail;refine iq8 eU ?_;go_wp2_with fail;refine iq8 oD ?_;go_wp2_with fail;refine mq8 jG fun w1 hb1=>?_;have HB1:=ah hb1;clear hb1;go_wp2
  go_ret2
  exact iE.none_ HR.out HB1.out
 |true=>
  obtain⟨q,hq⟩:=aj (t.drop 3);have htp:Lib.trimPrefix t [48,120,49]=q:=by unfold Lib.trimPrefix;rw[hpre,<-hq];rfl
  have Ej:q.length<=1073741824:=by rw[<-hq,ae1];omega
  have yC:Num.pair t=match Num.kR q with|none=>none|some (u,v)=>match Num.mV u,Num.sN v with|some f,some e=>some (f,e)|_,_=>none:=by unfold Num.pair;rw[aeu hpre,hq];rfl
  rw[yC]at hp;rw[hpre,htp]at hcp2;obtain⟨z3,hz3⟩:=aj (⟨q.toArray⟩:ByteArray);rw[hz3]at hcp2;have yD:z3.data.toList=q:=by rw[<-hz3]
  have Gf:z3.size=q.length:=by rw[<-hz3,dR]
  have oD:=ah hcp2;have hix:=PO z3 ⟨#[112,109]⟩ w (by omega) (by decide) (by decide) (fun j b hj=>PS j b hj)
  rw[yD]at hix;have LG:(⟨#[112,109]⟩:ByteArray).data.toList=[112,109]:=rfl;rw[LG]at hix;clear htp yC hpre hcp2 hzl hzs htl hq hz3 e01 LG;cases hcut:Num.kR q with
  |none=>
   rw[hcut]at hp;rw[Ui q hcut]at hix;have jG:=ah hix;have HR:=ah hp;clear hp hcut hix yD Gf Ej;go_enter func186,ntmps186;go_wp2_with fail;refine iq8 eU ?_;go_wp2_with fail;refine iq8 oD ?_;go_wp2_with fail;refine mq8 jG fun w1 hb1=>?_;have HB1:=ah hb1;clear hb1;go_wp2
   go_ret2
   exact iE.none_ HR.out HB1.out
  |some uv=>
   obtain⟨u,v⟩:=uv;rw[hcut]at hp
   dsimp only at hp
   rw[Uj q u v hcut]at hix;have BO:=Num.Pj q u v hcut;obtain⟨m,hm⟩:=aj u.length;rw[hm]at hix;have BP:m+v.length=z3.size:=by rw[Gf,BO,aeo,hm]
   have BN:(m:Int)<=z3.size:=by omega
   have hmz:m<=z3.size:=by omega
   obtain⟨zu,hzu⟩:=aj (z3.extract 0 m);obtain⟨zv,hzv⟩:=aj (z3.extract m z3.size)
   have Gg:zu.data.toList=u:=by
    rw[<-hzu,aso,yD,BO];simp[<-hm]
   have Gh:zv.data.toList=v:=by
    rw[<-hzv,aso,yD,BO,<-hm,aoK];exact aeG (by omega)
   have hfr:=fun W=>aaL zu W (by rw[aof,Gg];omega)
   have hex:=fun W=>aaN zv W (by rw[aof,Gh];omega)
   rw[Gg]at hfr;rw[Gh]at hex;have hz3b:(z3.size:Int)<=1073741824:=by omega
   have jG:=ah hix;clear hix hcut BO hm Gg Gh yD Gf Ej;cases hfg:Num.mV u with
   |none=>
    rw[hfg]at hp hfr;have HR:Hid (R=none):=hp;have pR:=ah hfr;have HEX:=ah hex;clear hp hfg hfr hex BP;go_enter func186,ntmps186;go_wp2_with fail;refine iq8 eU ?_;go_wp2_with fail;refine iq8 oD ?_;go_wp2_with fail;refine mq8 jG fun w1 hb1=>?_;have HB1:=ah hb1;clear hb1;go_wp2_with fail;refine iq7 (pR.out _) ?_;go_wp2_with fail;refine(HEX.out w1).mono ?_;rintro e w2 ⟨ev,rfl,hev,hb2⟩;have HB2:=ah (HB1.trans (hb2.mono HB1.size));clear hb2;clear hev;go_wp2
    go_ret2
    exact iE.none_ HR.out HB2.out
   |some f=>
    cases sW:Num.sN v with
    |none=>
     rw[hfg,sW]at hp;rw[hfg]at hfr;rw[sW]at hex;have HR:Hid (R=none):=hp;have pR:=ah hfr;have HEX:=ah hex;clear hp hfg sW hfr hex BP;go_enter func186,ntmps186;go_wp2_with fail;refine iq8 eU ?_;go_wp2_with fail;refine iq8 oD ?_;go_wp2_with fail;refine mq8 jG fun w1 hb1=>?_;have HB1:=ah hb1;clear hb1;go_wp2_with fail;refine iq7 (pR.out _) ?_;go_wp2_with fail;refine(HEX.out w1).mono ?_;rintro e w2 ⟨ev,rfl,hev,hb2⟩;have HB2:=ah (HB1.trans (hb2.mono HB1.size));clear hb2;clear hev;go_wp2
     go_ret2
     exact iE.none_ HR.out HB2.out
    |some e0=>
     obtain⟨-,LH⟩:=Num.TL hfg;obtain⟨-,he1,he2⟩:=Num.TQ sW;rw[hfg,sW]at hp;rw[hfg]at hfr;rw[sW]at hex;have pR:=ah hfr;have HEX:=ah hex;have hp2:R=(if Num.fits f e0 then some (Num.bitsOf f e0) else none):=hp
     clear hfg sW hfr hex BP hp;have Jf:=ah (fun(W:World) (hb:Below w.heap.size w W)=>hL.below hb)
     clear hL;by_cases hge: -1022<=e0
     ·rw[aeu (.inl hge)]at hp2
      obtain⟨x,hx⟩: ∃x:Nat,e0+1023=x:=⟨(e0+1023).toNat,by omega⟩
      have rO:Num.bitsOf f e0=x*4503599627370496+f:=by unfold Num.bitsOf;rw[aeu hge,hx];rfl
      rw[rO]at hp2;have hx1:(1:Int)<=x:=by omega
      have hx2:(x:Int)<=2046:=by omega
      have ho1:bits BinOp.or IntKind.u64 0 ((x:Int)*4503599627370496)=(x:Int)*4503599627370496:=by
       rw[show(x:Int)*4503599627370496=((x*4503599627370496:Nat):Int) by omega,or_zero _ (by omega)]
       skip
      have ho2:bits BinOp.or IntKind.u64 ((x:Int)*4503599627370496) (f:Int)=(x:Int)*4503599627370496+f:=by
       have h:=aaP (x) f LH (by omega)
       rw[show(((x)*4503599627370496:Nat):Int)=(x:Int)*4503599627370496 by omega]at h
       rw[h];omega
      have HR:=ah hp2;clear hp2 rO;go_enter func186,ntmps186;go_wp2_with fail;refine iq8 eU ?_;go_wp2_with fail;refine iq8 oD ?_;go_wp2_with fail;refine mq8 jG fun w1 hb1=>?_;have HB1:=ah hb1;clear hb1;go_wp2_with fail;refine iq7 (pR.out _) ?_;go_wp2_with fail;refine(HEX.out w1).mono ?_;rintro e w2 ⟨ev,rfl,hev,hb2⟩;have HB2:=ah (HB1.trans (hb2.mono HB1.size));clear hb2;obtain rfl:ev=e0:=hev e0 rfl;clear hev;go_wp2
      go_ret2
      refine iE.some_ (v:=(x:Int)*4503599627370496+f) (n:=x*4503599627370496+f) HR.out ?_ HB2.out;omega
     obtain⟨d,hdd⟩: ∃d:Nat,-1022 - e0=d:=⟨(-1022 - e0).toNat,by omega⟩
     obtain⟨F,hF⟩:=aj (f+4503599627370496);have hor:=or_one f LH;rw[hF]at hor;have hd1:(1:Int)<=d:=by omega
     have hd2:(d:Int)<=52:=by omega
     have hF2:(F:Int)<=9007199254740992:=by omega
     have hF1:F≠0:=by omega
     have hfit:Num.fits f e0↔d<=Lib.ctz 64 F:=by
      unfold Num.fits;rw[show(-1022 - e0).toNat=d by omega,an8,hF]
      exact⟨fun h=>h.resolve_left hge,fun h=> .inr h⟩
     have rO:Num.bitsOf f e0=F / 2 ^ d:=by
      unfold Num.bitsOf;rw[aer hge,show(-1022 - e0).toNat=d by omega,an8,hF]
     have hge':e0< -1022:=by omega
     have anz:decide (-1022<=e0)=false:=dF hge;obtain⟨ct,hct⟩:=aj (Lib.ctz 64 F);have LM:=ah (fun(W:World) (hb:Below w.heap.size w W)=>hct▸aaG F hF1 (by omega) W (Jf.out W hb))
     rw[hct]at hfit;rw[rO]at hp2;by_cases hlt:ct<d
     ·have hr:R=none:=by rw[hp2,aer (fun h=>by have:=hfit.1 h;omega)]
      have HR:=ah hr;have hlt':(ct:Int)<d:=by omega
      clear hp2 hr hfit rO hct hF hF1;go_enter func186,ntmps186;go_wp2_with fail;refine iq8 eU ?_;go_wp2_with fail;refine iq8 oD ?_;go_wp2_with fail;refine mq8 jG fun w1 hb1=>?_;have HB1:=ah hb1;clear hb1;go_wp2_with fail;refine iq7 (pR.out _) ?_;go_wp2_with fail;refine(HEX.out w1).mono ?_;rintro e w2 ⟨ev,rfl,hev,hb2⟩;have HB2:=ah (HB1.trans (hb2.mono HB1.size));clear hb2;obtain rfl:ev=e0:=hev e0 rfl;clear hev;go_wp2_with fail;refine iq7 (LM.out w2 HB2.out) ?_;go_wp2
      go_ret2
      exact iE.none_ HR.out HB2.out
     have hr:R=some (F / 2 ^ d):=by rw[hp2,aeu (hfit.2 (by omega))]
     have HR:=ah hr;have hlt': ¬(ct:Int)<d:=by omega
     have anA:(d:Int)<=ct:=by omega
     have hnd:decide (ct<d)=false:=dF hlt;have hq:F / 2 ^ d<=F:=arN _ _;have HQ:=ah hq;clear hp2 hr hfit rO hct hF hF1 hq;go_enter func186,ntmps186;go_wp2_with fail;refine iq8 eU ?_;go_wp2_with fail;refine iq8 oD ?_;go_wp2_with fail;refine mq8 jG fun w1 hb1=>?_;have HB1:=ah hb1;clear hb1;go_wp2_with fail;refine iq7 (pR.out _) ?_;go_wp2_with fail;refine(HEX.out w1).mono ?_;rintro e w2 ⟨ev,rfl,hev,hb2⟩;have HB2:=ah (HB1.trans (hb2.mono HB1.size));clear hb2;obtain rfl:ev=e0:=hev e0 rfl;clear hev;go_wp2_with fail;refine iq7 (LM.out w2 HB2.out) ?_;go_wp2
     go_ret2
     refine iE.some_ (v:=bits BinOp.or IntKind.u64 0 ((F:Int) / 2 ^ d)) (n:=F / 2 ^ d) HR.out ?_ HB2.out;rw[show(F:Int) / 2 ^ d=((F / 2 ^ d:Nat):Int) by simp]
     have hq:=HQ.out;exact or_zero _ (by omega)
end Go.Proofs.YtdijgcnlbfgkdaaGreatDoor
