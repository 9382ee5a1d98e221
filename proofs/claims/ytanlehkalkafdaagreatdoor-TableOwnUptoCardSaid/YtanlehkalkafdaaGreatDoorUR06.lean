/- Contracts and plain laws,part 6. -/
import Derived.Test.YtanlehkalkafdaaGreatDoorUR05
import Derived.Deep.DeepCutAuto
import Derived.Deep.CutBlock
import Derived.Shelf.Lay
set_option maxHeartbeats 64000000
set_option maxRecDepth 1000000
set_option linter.all false
namespace Go.Proofs.YtanlehkalkafdaaGreatDoor
open Go.RowKit
theorem cutPM_none: ∀l:List UInt8,Num.cutPM l=none->Lib.indexAny l [112,109]= -1
 |[],_=>rfl
 |c :: r,h=>by
  simp only[Num.cutPM]at h
  split at h
  ·cases h
  rename_i hc
  have hr:Num.cutPM r=none:=by
   cases h2:Num.cutPM r with
   |none=>rfl
   |some x=>rw[h2]at h;cases h
  have hcon: [112,109].contains c=false:=by
   have h1:c≠112:=fun e=>hc (.inl e)
   have h2:c≠109:=fun e=>hc (.inr e)
   simp[h1,h2]
  simp only[Lib.indexAny,hcon,cutPM_none r hr];rfl
theorem cutPM_ix: ∀(l u v:List UInt8),Num.cutPM l=some (u,v)->Lib.indexAny l [112,109]=u.length
 |[],u,v,h=>by simp[Num.cutPM]at h
 |c :: r,u,v,h=>by
  simp only[Num.cutPM]at h
  split at h
  ·rename_i hc
   simp only[uH,uZ]at h;obtain⟨rfl,rfl⟩:=h
   have hcon: [112,109].contains c=true:=by
    rcases hc with rfl|rfl<;>decide
   simp only[Lib.indexAny,hcon];rfl
  rename_i hc;cases h2:Num.cutPM r with
  |none=>rw[h2]at h;cases h
  |some x=>
   rw[h2]at h;simp only[vg,uH,uZ]at h;obtain⟨rfl,rfl⟩:=h
   have hcon: [112,109].contains c=false:=by
    have h1:c≠112:=fun e=>hc (.inl e)
    have h2:c≠109:=fun e=>hc (.inr e)
    simp[h1,h2]
   have ih:=cutPM_ix r x.1 x.2 h2;simp only[Lib.indexAny,hcon,ih,sS]
   have hne:(((x.1.length:Int)) == -1)=false:=by rw[rX];omega
   rw[hne];simp
def FloatRes (r:Option Nat) (w:World) (e:Ending) (w':World):Prop:=e=.returned (.tuple #[.int .u64 (r.getD 0:Nat),.int .i64 (if r.isSome then 0 else 52)])/\Below w.heap.size w w'
theorem FloatRes.none_ {r:Option Nat} {w w':World} (h:r=none) (hb:Below w.heap.size w w'):FloatRes r w (.returned (.tuple #[.int .u64 0,.int .i64 52])) w':=by
 subst h;exact⟨rfl,hb⟩
theorem FloatRes.some_ {r:Option Nat} {w w':World} {v:Int} {n:Nat} (h:r=some n) (hv:v=n) (hb:Below w.heap.size w w'):FloatRes r w (.returned (.tuple #[.int .u64 v,.int .i64 0])) w':=by
 subst h hv;exact⟨rfl,hb⟩
theorem or_sign (a:Nat) (ha:a<9223372036854775808):bits BinOp.or IntKind.u64 9223372036854775808 (a:Int)=((9223372036854775808+a:Nat):Int):=by
 rw[show(9223372036854775808:Int)=((9223372036854775808:Nat):Int) from rfl,bits_or_u64_nat _ _ (by omega) (by omega)]
 congr 1
 have h:=xZ (i:=63) (b:=a) ha 1;rw[show(9223372036854775808:Nat)=2 ^ 63*1 from rfl,<-h]
theorem or_zero (a:Nat) (ha:a<18446744073709551616):bits BinOp.or IntKind.u64 0 (a:Int)=(a:Int):=by
 rw[show(0:Int)=((0:Nat):Int) from rfl,bits_or_u64_nat _ _ (by omega) (by omega),Nat.zero_or]
theorem or_frac (a f:Nat) (hf:f<4503599627370496) (ha:a<4096):bits BinOp.or IntKind.u64 ((a*4503599627370496:Nat):Int) (f:Int)=((a*4503599627370496+f:Nat):Int):=by
 rw[bits_or_u64_nat _ _ (by omega) (by omega)]
 congr 1
 have h:=xZ (i:=52) (b:=f) hf a;rw[xu,show(4503599627370496:Nat)=2 ^ 52 from rfl,<-h]
theorem hasPrefix_45 (l:List UInt8):Lib.hasPrefix l [45]=decide (l.head?=some 45):=by
 unfold Lib.hasPrefix;cases l with
 |nil=>simp
 |cons c t=>
  simp only[List.isPrefixOf,AU,zN,uH];by_cases h:c=45
  ·subst h;decide
  rw[rO h]
  simpa using fun e=>h e.symm
theorem pm_ascii (j:Nat) (b:UInt8) (hj:((⟨#[112,109]⟩:ByteArray).data.toList)[j]?=some b):b.toNat<128:=by
 have:b∈([112,109]:List UInt8):=sK hj
 rcases uD.1 this with rfl|h
 ·decide
 rw[ug.1 h];decide
theorem list_beq {l:List UInt8} {m:List UInt8} (h:l≠m):(l == m)=false:=by
 cases hq:l == m with
 |false=>rfl
 |true=>exact absurd (eq_of_beq hq) h
theorem parseFloat1 (s:ByteArray) (w:World) (hs:s.size<=1073741824) (hL:Laid w) (hnan:s.data.toList≠Num.NANS) (hh:s.data.toList.head?=some 45):
  Calls Tryz.prog 211 #[.string s] w (FloatRes (Num.parse s.data.toList) w):=by
 have hcp:=Tryz.strings_CutPrefix s ⟨#[45]⟩ w
 have e45:(⟨#[45]⟩:ByteArray).data.toList=[45]:=rfl
 rw[e45,trim_neg,hasPrefix_45,rY hh,rQ hh]at hcp
 have hp:Num.parse s.data.toList=(Num.parseU (s.data.toList.drop 1)).map (9223372036854775808+ ·):=by unfold Num.parse;rw[rU hnan,rY hh]
 have hn1:(s.toList ==[48,120,110,97,110])=false:=by rw[Lib.toList_data];exact list_beq hnan
 obtain⟨t,ht⟩:=aj (s.data.toList.drop 1)
 have htl:t.length<=1073741824:=by rw[<-ht,uJ,<-Lib.size_eq];omega
 obtain⟨R,hR⟩:=aj (Num.parse s.data.toList);rw[hR];rw[hR,ht]at hp;rw[ht]at hcp
 obtain⟨z,hz⟩:=aj (⟨t.toArray⟩:ByteArray);have hzl:z.data.toList=t:=by rw[<-hz]
 have hzs:z.size=t.length:=by rw[<-hz,size_list]
 rw[hz]at hcp;have hcp':=hcp.mono fun e w' (h:_/\w'=w)=>(⟨h.1,h.2.symm⟩:_/\w=w')
 have HCP:=ah hcp';clear hcp hcp' e45 hnan hh ht hR hz;by_cases hinf:t=Num.INFS
 ·have t1:(z.toList ==[48,120,105,110,102])=true:=by rw[Lib.toList_data,hzl,hinf];rfl
  have hv:Num.parseU t=some 9218868437227405312:=by unfold Num.parseU;rw[rY hinf]
  rw[hv]at hp;have HR:=ah hp
  have hor:bits BinOp.or IntKind.u64 9223372036854775808 9218868437227405312=18442240474082181120:=by decide
  clear hp hv hinf hzl hzs htl;go_enter Tryz.func211,Tryz.ntmps211;go_wp2_with fail
  refine HCP.mono ?_;rintro e w' ⟨rfl,rfl⟩;go_wp2
  go_ret2
  exact FloatRes.some_ HR.out (by rfl) (Below.refl _ _)
 have t1:(z.toList ==[48,120,105,110,102])=false:=by rw[Lib.toList_data,hzl];exact list_beq hinf
 by_cases hzero:t=Num.ZERO
 ·have t2:(z.toList ==[48,120,48])=true:=by rw[Lib.toList_data,hzl,hzero];rfl
  have hv:Num.parseU t=some 0:=by unfold Num.parseU;rw[rU hinf,rY hzero]
  rw[hv]at hp;have HR:=ah hp;clear hp hv hinf hzero hzl hzs htl
  go_enter Tryz.func211,Tryz.ntmps211;go_wp2_with fail;refine HCP.mono ?_
  rintro e w' ⟨rfl,rfl⟩;go_wp2
  go_ret2
  exact FloatRes.some_ HR.out (by rfl) (Below.refl _ _)
 have t2:(z.toList ==[48,120,48])=false:=by rw[Lib.toList_data,hzl];exact list_beq hzero
 have hv:Num.parseU t=match Num.pair t with|none=>none|some (f,e)=>if Num.fits f e then some (Num.bitsOf f e) else none:=by unfold Num.parseU;rw[rU hinf,rU hzero];rfl
 rw[hv]at hp;clear hv hinf hzero
 have hcp2:=(Tryz.strings_CutPrefix z ⟨#[48,120,49]⟩ w).mono fun e w' (h:_/\w'=w)=>(⟨h.1,h.2.symm⟩:_/\w=w')
 have e01:(⟨#[48,120,49]⟩:ByteArray).data.toList=[48,120,49]:=rfl;rw[hzl,e01]at hcp2
 cases hpre:Lib.hasPrefix t [48,120,49] with
 |false=>
  have hpair:Num.pair t=none:=by unfold Num.pair;rw[hpre];rfl
  have htp:Lib.trimPrefix t [48,120,49]=t:=by unfold Lib.trimPrefix;rw[hpre];rfl
  rw[hpair]at hp;rw[hpre,htp]at hcp2;have HR:=ah hp;have HCP2:=ah hcp2
  obtain⟨z3,hz3⟩:=aj (⟨t.toArray⟩:ByteArray);rw[hz3]at HCP2
  have hix:=indexAny_any z3 ⟨#[112,109]⟩ w (by rw[<-hz3,size_list];omega) (by decide) (by decide) (fun j b hj=>pm_ascii j b hj)
  obtain⟨ix,hixx⟩:=aj (Lib.indexAny z3.data.toList (⟨#[112,109]⟩:ByteArray).data.toList)
  rw[hixx]at hix;have HIX:=ah hix
  clear hp hpair htp hpre hcp2 hix hixx hz3 hzl hzs htl e01
  go_enter Tryz.func211,Tryz.ntmps211;go_wp2_with fail;refine HCP.mono ?_
  rintro e w' ⟨rfl,rfl⟩;go_wp2_with fail;refine HCP2.mono ?_;rintro e w' ⟨rfl,rfl⟩
  go_wp2_with fail;refine HIX.mono ?_;rintro e w1 ⟨rfl,hb1⟩;have HB1:=ah hb1;clear hb1
  go_wp2
  go_ret2
  exact FloatRes.none_ HR.out HB1.out
 |true=>
  obtain⟨q,hq⟩:=aj (t.drop 3)
  have htp:Lib.trimPrefix t [48,120,49]=q:=by unfold Lib.trimPrefix;rw[hpre,<-hq];rfl
  have hql:q.length<=1073741824:=by rw[<-hq,uJ];omega
  have hpair:Num.pair t=match Num.cutPM q with|none=>none|some (u,v)=>match Num.fracG u,Num.expG v with|some f,some e=>some (f,e)|_,_=>none:=by unfold Num.pair;rw[rY hpre,hq];rfl
  rw[hpair]at hp;rw[hpre,htp]at hcp2;obtain⟨z3,hz3⟩:=aj (⟨q.toArray⟩:ByteArray)
  rw[hz3]at hcp2;have hz3l:z3.data.toList=q:=by rw[<-hz3]
  have hz3s:z3.size=q.length:=by rw[<-hz3,size_list]
  have HCP2:=ah hcp2
  have hix:=indexAny_any z3 ⟨#[112,109]⟩ w (by omega) (by decide) (by decide) (fun j b hj=>pm_ascii j b hj)
  rw[hz3l]at hix;have epm:(⟨#[112,109]⟩:ByteArray).data.toList=[112,109]:=rfl
  rw[epm]at hix;clear htp hpair hpre hcp2 hzl hzs htl hq hz3 e01 epm
  cases hcut:Num.cutPM q with
  |none=>
   rw[hcut]at hp;rw[cutPM_none q hcut]at hix;have HIX:=ah hix;have HR:=ah hp
   clear hp hcut hix hz3l hz3s hql;go_enter Tryz.func211,Tryz.ntmps211;go_wp2_with fail
   refine HCP.mono ?_;rintro e w' ⟨rfl,rfl⟩;go_wp2_with fail;refine HCP2.mono ?_
   rintro e w' ⟨rfl,rfl⟩;go_wp2_with fail;refine HIX.mono ?_;rintro e w1 ⟨rfl,hb1⟩
   have HB1:=ah hb1;clear hb1;go_wp2
   go_ret2
   exact FloatRes.none_ HR.out HB1.out
  |some uv=>
   obtain⟨u,v⟩:=uv;rw[hcut]at hp
   dsimp only at hp
   rw[cutPM_ix q u v hcut]at hix;have hquv:=Num.cutPM_some q u v hcut
   obtain⟨m,hm⟩:=aj u.length;rw[hm]at hix
   have hmq:m+v.length=z3.size:=by rw[hz3s,hquv,rP,hm]
   have hmi:(m:Int)<=z3.size:=by omega
   have hmz:m<=z3.size:=by omega
   obtain⟨zu,hzu⟩:=aj (z3.extract 0 m);obtain⟨zv,hzv⟩:=aj (z3.extract m z3.size)
   have hzul:zu.data.toList=u:=by
    rw[<-hzu,Lib.extract_data,hz3l,hquv];simp[<-hm]
   have hzvl:zv.data.toList=v:=by
    rw[<-hzv,Lib.extract_data,hz3l,hquv,<-hm,yg];exact sG (by omega)
   have hfr:=fun W=>fraction_any zu W (by rw[Lib.size_eq,hzul];omega)
   have hex:=fun W=>exponent_any zv W (by rw[Lib.size_eq,hzvl];omega)
   rw[hzul]at hfr;rw[hzvl]at hex;have hz3b:(z3.size:Int)<=1073741824:=by omega
   have HIX:=ah hix;clear hix hcut hquv hm hzul hzvl hz3l hz3s hql
   cases hfg:Num.fracG u with
   |none=>
    rw[hfg]at hp hfr;have HR:Hid (R=none):=hp;have HFR:=ah hfr;have HEX:=ah hex
    clear hp hfg hfr hex hmq;go_enter Tryz.func211,Tryz.ntmps211;go_wp2_with fail
    refine HCP.mono ?_;rintro e w' ⟨rfl,rfl⟩;go_wp2_with fail;refine HCP2.mono ?_
    rintro e w' ⟨rfl,rfl⟩;go_wp2_with fail;refine HIX.mono ?_;rintro e w1 ⟨rfl,hb1⟩
    have HB1:=ah hb1;clear hb1;go_wp2_with fail;refine(HFR.out _).mono ?_
    rintro e w' ⟨rfl,rfl⟩;go_wp2_with fail;refine(HEX.out w1).mono ?_
    rintro e w2 ⟨ev,rfl,hev,hb2⟩;have HB2:=ah (HB1.trans (hb2.mono HB1.size));clear hb2
    clear hev;go_wp2
    go_ret2
    exact FloatRes.none_ HR.out HB2.out
   |some f=>
    cases heg:Num.expG v with
    |none=>
     rw[hfg,heg]at hp;rw[hfg]at hfr;rw[heg]at hex;have HR:Hid (R=none):=hp
     have HFR:=ah hfr;have HEX:=ah hex;clear hp hfg heg hfr hex hmq
     go_enter Tryz.func211,Tryz.ntmps211;go_wp2_with fail;refine HCP.mono ?_
     rintro e w' ⟨rfl,rfl⟩;go_wp2_with fail;refine HCP2.mono ?_;rintro e w' ⟨rfl,rfl⟩
     go_wp2_with fail;refine HIX.mono ?_;rintro e w1 ⟨rfl,hb1⟩;have HB1:=ah hb1;clear hb1
     go_wp2_with fail;refine(HFR.out _).mono ?_;rintro e w' ⟨rfl,rfl⟩;go_wp2_with fail
     refine(HEX.out w1).mono ?_;rintro e w2 ⟨ev,rfl,hev,hb2⟩
     have HB2:=ah (HB1.trans (hb2.mono HB1.size));clear hb2;clear hev;go_wp2
     go_ret2
     exact FloatRes.none_ HR.out HB2.out
    |some e0=>
     obtain⟨-,hf52⟩:=Num.fracG_form hfg;obtain⟨-,he1,he2⟩:=Num.expG_form heg
     rw[hfg,heg]at hp;rw[hfg]at hfr;rw[heg]at hex;have HFR:=ah hfr;have HEX:=ah hex
     have hp2:R=(if Num.fits f e0 then some (Num.bitsOf f e0) else none).map (9223372036854775808+ ·):=hp
     clear hfg heg hfr hex hmq hp
     have HLD:=ah (fun(W:World) (hb:Below w.heap.size w W)=>hL.below hb)
     clear hL;by_cases hge: -1022<=e0
     ·rw[rY (.inl hge)]at hp2
      obtain⟨x,hx⟩: ∃x:Nat,e0+1023=x:=⟨(e0+1023).toNat,by omega⟩
      have hbo:Num.bitsOf f e0=x*4503599627370496+f:=by unfold Num.bitsOf;rw[rY hge,hx];rfl
      rw[hbo]at hp2;have hx1:(1:Int)<=x:=by omega
      have hx2:(x:Int)<=2046:=by omega
      have ho1:bits BinOp.or IntKind.u64 9223372036854775808 ((x:Int)*4503599627370496)=(2048+(x:Int))*4503599627370496:=by
       rw[show(x:Int)*4503599627370496=((x*4503599627370496:Nat):Int) by omega,or_sign _ (by omega)]
       omega
      have ho2:bits BinOp.or IntKind.u64 ((2048+(x:Int))*4503599627370496) (f:Int)=(2048+(x:Int))*4503599627370496+f:=by
       have h:=or_frac (2048+x) f hf52 (by omega)
       rw[show(((2048+x)*4503599627370496:Nat):Int)=(2048+(x:Int))*4503599627370496 by omega]at h
       rw[h];omega
      have HR:=ah hp2;clear hp2 hbo;go_enter Tryz.func211,Tryz.ntmps211;go_wp2_with fail
      refine HCP.mono ?_;rintro e w' ⟨rfl,rfl⟩;go_wp2_with fail;refine HCP2.mono ?_
      rintro e w' ⟨rfl,rfl⟩;go_wp2_with fail;refine HIX.mono ?_;rintro e w1 ⟨rfl,hb1⟩
      have HB1:=ah hb1;clear hb1;go_wp2_with fail;refine(HFR.out _).mono ?_
      rintro e w' ⟨rfl,rfl⟩;go_wp2_with fail;refine(HEX.out w1).mono ?_
      rintro e w2 ⟨ev,rfl,hev,hb2⟩;have HB2:=ah (HB1.trans (hb2.mono HB1.size));clear hb2
      obtain rfl:ev=e0:=hev e0 rfl;clear hev;go_wp2
      go_ret2
      refine FloatRes.some_ (v:=(2048+(x:Int))*4503599627370496+f) (n:=9223372036854775808+(x*4503599627370496+f)) HR.out ?_ HB2.out
      omega
     obtain⟨d,hdd⟩: ∃d:Nat,-1022 - e0=d:=⟨(-1022 - e0).toNat,by omega⟩
     obtain⟨F,hF⟩:=aj (f+4503599627370496);have hor:=or_one f hf52;rw[hF]at hor
     have hd1:(1:Int)<=d:=by omega
     have hd2:(d:Int)<=52:=by omega
     have hF2:(F:Int)<=9007199254740992:=by omega
     have hF1:F≠0:=by omega
     have hfit:Num.fits f e0↔d<=Lib.ctz 64 F:=by
      unfold Num.fits;rw[show(-1022 - e0).toNat=d by omega,x8,hF]
      exact⟨fun h=>h.resolve_left hge,fun h=> .inr h⟩
     have hbo:Num.bitsOf f e0=F / 2 ^ d:=by
      unfold Num.bitsOf;rw[rU hge,show(-1022 - e0).toNat=d by omega,x8,hF]
     have hge':e0< -1022:=by omega
     have hged:decide (-1022<=e0)=false:=rO hge;obtain⟨ct,hct⟩:=aj (Lib.ctz 64 F)
     have HTZ:=ah (fun(W:World) (hb:Below w.heap.size w W)=>hct▸tz64_any F hF1 (by omega) W (HLD.out W hb))
     rw[hct]at hfit;rw[hbo]at hp2;by_cases hlt:ct<d
     ·have hr:R=none:=by rw[hp2,rU (fun h=>by have:=hfit.1 h;omega)];rfl
      have HR:=ah hr;have hlt':(ct:Int)<d:=by omega
      clear hp2 hr hfit hbo hct hF hF1;go_enter Tryz.func211,Tryz.ntmps211
      go_wp2_with fail;refine HCP.mono ?_;rintro e w' ⟨rfl,rfl⟩;go_wp2_with fail
      refine HCP2.mono ?_;rintro e w' ⟨rfl,rfl⟩;go_wp2_with fail;refine HIX.mono ?_
      rintro e w1 ⟨rfl,hb1⟩;have HB1:=ah hb1;clear hb1;go_wp2_with fail
      refine(HFR.out _).mono ?_;rintro e w' ⟨rfl,rfl⟩;go_wp2_with fail
      refine(HEX.out w1).mono ?_;rintro e w2 ⟨ev,rfl,hev,hb2⟩
      have HB2:=ah (HB1.trans (hb2.mono HB1.size));clear hb2;obtain rfl:ev=e0:=hev e0 rfl
      clear hev;go_wp2_with fail;refine(HTZ.out w2 HB2.out).mono ?_;rintro e w' ⟨rfl,rfl⟩
      go_wp2
      go_ret2
      exact FloatRes.none_ HR.out HB2.out
     have hr:R=some (9223372036854775808+F / 2 ^ d):=by rw[hp2,rY (hfit.2 (by omega))];rfl
     have HR:=ah hr;have hlt': ¬(ct:Int)<d:=by omega
     have hge3:(d:Int)<=ct:=by omega
     have hnd:decide (ct<d)=false:=rO hlt;have hq:F / 2 ^ d<=F:=Bl _ _;have HQ:=ah hq
     clear hp2 hr hfit hbo hct hF hF1 hq;go_enter Tryz.func211,Tryz.ntmps211
     go_wp2_with fail;refine HCP.mono ?_;rintro e w' ⟨rfl,rfl⟩;go_wp2_with fail
     refine HCP2.mono ?_;rintro e w' ⟨rfl,rfl⟩;go_wp2_with fail;refine HIX.mono ?_
     rintro e w1 ⟨rfl,hb1⟩;have HB1:=ah hb1;clear hb1;go_wp2_with fail
     refine(HFR.out _).mono ?_;rintro e w' ⟨rfl,rfl⟩;go_wp2_with fail
     refine(HEX.out w1).mono ?_;rintro e w2 ⟨ev,rfl,hev,hb2⟩
     have HB2:=ah (HB1.trans (hb2.mono HB1.size));clear hb2;obtain rfl:ev=e0:=hev e0 rfl
     clear hev;go_wp2_with fail;refine(HTZ.out w2 HB2.out).mono ?_;rintro e w' ⟨rfl,rfl⟩
     go_wp2
     go_ret2
     refine FloatRes.some_ (v:=bits BinOp.or IntKind.u64 9223372036854775808 ((F:Int) / 2 ^ d)) (n:=9223372036854775808+F / 2 ^ d) HR.out ?_ HB2.out
     rw[show(F:Int) / 2 ^ d=((F / 2 ^ d:Nat):Int) by simp]
     have hq:=HQ.out;exact or_sign _ (by omega)
theorem parseFloat0 (s:ByteArray) (w:World) (hs:s.size<=1073741824) (hL:Laid w) (hnan:s.data.toList≠Num.NANS) (hh:s.data.toList.head?≠some 45):
  Calls Tryz.prog 211 #[.string s] w (FloatRes (Num.parse s.data.toList) w):=by
 have hcp:=Tryz.strings_CutPrefix s ⟨#[45]⟩ w
 have e45:(⟨#[45]⟩:ByteArray).data.toList=[45]:=rfl
 rw[e45,trim_neg,hasPrefix_45,rU hh,rO hh]at hcp
 have hp:Num.parse s.data.toList=Num.parseU s.data.toList:=by unfold Num.parse;rw[rU hnan,rU hh]
 have hn1:(s.toList ==[48,120,110,97,110])=false:=by rw[Lib.toList_data];exact list_beq hnan
 obtain⟨t,ht⟩:=aj s.data.toList
 have htl:t.length<=1073741824:=by rw[<-ht,<-Lib.size_eq];omega
 obtain⟨R,hR⟩:=aj (Num.parse s.data.toList);rw[hR];rw[hR,ht]at hp;rw[ht]at hcp
 obtain⟨z,hz⟩:=aj (⟨t.toArray⟩:ByteArray);have hzl:z.data.toList=t:=by rw[<-hz]
 have hzs:z.size=t.length:=by rw[<-hz,size_list]
 rw[hz]at hcp;have hcp':=hcp.mono fun e w' (h:_/\w'=w)=>(⟨h.1,h.2.symm⟩:_/\w=w')
 have HCP:=ah hcp';clear hcp hcp' e45 hnan hh ht hR hz;by_cases hinf:t=Num.INFS
 ·have t1:(z.toList ==[48,120,105,110,102])=true:=by rw[Lib.toList_data,hzl,hinf];rfl
  have hv:Num.parseU t=some 9218868437227405312:=by unfold Num.parseU;rw[rY hinf]
  rw[hv]at hp;have HR:=ah hp
  have hor:bits BinOp.or IntKind.u64 0 9218868437227405312=9218868437227405312:=by decide
  clear hp hv hinf hzl hzs htl;go_enter Tryz.func211,Tryz.ntmps211;go_wp2_with fail
  refine HCP.mono ?_;rintro e w' ⟨rfl,rfl⟩;go_wp2
  go_ret2
  exact FloatRes.some_ HR.out (by rfl) (Below.refl _ _)
 have t1:(z.toList ==[48,120,105,110,102])=false:=by rw[Lib.toList_data,hzl];exact list_beq hinf
 by_cases hzero:t=Num.ZERO
 ·have t2:(z.toList ==[48,120,48])=true:=by rw[Lib.toList_data,hzl,hzero];rfl
  have hv:Num.parseU t=some 0:=by unfold Num.parseU;rw[rU hinf,rY hzero]
  rw[hv]at hp;have HR:=ah hp;clear hp hv hinf hzero hzl hzs htl
  go_enter Tryz.func211,Tryz.ntmps211;go_wp2_with fail;refine HCP.mono ?_
  rintro e w' ⟨rfl,rfl⟩;go_wp2
  go_ret2
  exact FloatRes.some_ HR.out (by rfl) (Below.refl _ _)
 have t2:(z.toList ==[48,120,48])=false:=by rw[Lib.toList_data,hzl];exact list_beq hzero
 have hv:Num.parseU t=match Num.pair t with|none=>none|some (f,e)=>if Num.fits f e then some (Num.bitsOf f e) else none:=by unfold Num.parseU;rw[rU hinf,rU hzero];rfl
 rw[hv]at hp;clear hv hinf hzero
 have hcp2:=(Tryz.strings_CutPrefix z ⟨#[48,120,49]⟩ w).mono fun e w' (h:_/\w'=w)=>(⟨h.1,h.2.symm⟩:_/\w=w')
 have e01:(⟨#[48,120,49]⟩:ByteArray).data.toList=[48,120,49]:=rfl;rw[hzl,e01]at hcp2
 cases hpre:Lib.hasPrefix t [48,120,49] with
 |false=>
  have hpair:Num.pair t=none:=by unfold Num.pair;rw[hpre];rfl
  have htp:Lib.trimPrefix t [48,120,49]=t:=by unfold Lib.trimPrefix;rw[hpre];rfl
  rw[hpair]at hp;rw[hpre,htp]at hcp2;have HR:=ah hp;have HCP2:=ah hcp2
  obtain⟨z3,hz3⟩:=aj (⟨t.toArray⟩:ByteArray);rw[hz3]at HCP2
  have hix:=indexAny_any z3 ⟨#[112,109]⟩ w (by rw[<-hz3,size_list];omega) (by decide) (by decide) (fun j b hj=>pm_ascii j b hj)
  obtain⟨ix,hixx⟩:=aj (Lib.indexAny z3.data.toList (⟨#[112,109]⟩:ByteArray).data.toList)
  rw[hixx]at hix;have HIX:=ah hix
  clear hp hpair htp hpre hcp2 hix hixx hz3 hzl hzs htl e01
  go_enter Tryz.func211,Tryz.ntmps211;go_wp2_with fail;refine HCP.mono ?_
  rintro e w' ⟨rfl,rfl⟩;go_wp2_with fail;refine HCP2.mono ?_;rintro e w' ⟨rfl,rfl⟩
  go_wp2_with fail;refine HIX.mono ?_;rintro e w1 ⟨rfl,hb1⟩;have HB1:=ah hb1;clear hb1
  go_wp2
  go_ret2
  exact FloatRes.none_ HR.out HB1.out
 |true=>
  obtain⟨q,hq⟩:=aj (t.drop 3)
  have htp:Lib.trimPrefix t [48,120,49]=q:=by unfold Lib.trimPrefix;rw[hpre,<-hq];rfl
  have hql:q.length<=1073741824:=by rw[<-hq,uJ];omega
  have hpair:Num.pair t=match Num.cutPM q with|none=>none|some (u,v)=>match Num.fracG u,Num.expG v with|some f,some e=>some (f,e)|_,_=>none:=by unfold Num.pair;rw[rY hpre,hq];rfl
  rw[hpair]at hp;rw[hpre,htp]at hcp2;obtain⟨z3,hz3⟩:=aj (⟨q.toArray⟩:ByteArray)
  rw[hz3]at hcp2;have hz3l:z3.data.toList=q:=by rw[<-hz3]
  have hz3s:z3.size=q.length:=by rw[<-hz3,size_list]
  have HCP2:=ah hcp2
  have hix:=indexAny_any z3 ⟨#[112,109]⟩ w (by omega) (by decide) (by decide) (fun j b hj=>pm_ascii j b hj)
  rw[hz3l]at hix;have epm:(⟨#[112,109]⟩:ByteArray).data.toList=[112,109]:=rfl
  rw[epm]at hix;clear htp hpair hpre hcp2 hzl hzs htl hq hz3 e01 epm
  cases hcut:Num.cutPM q with
  |none=>
   rw[hcut]at hp;rw[cutPM_none q hcut]at hix;have HIX:=ah hix;have HR:=ah hp
   clear hp hcut hix hz3l hz3s hql;go_enter Tryz.func211,Tryz.ntmps211;go_wp2_with fail
   refine HCP.mono ?_;rintro e w' ⟨rfl,rfl⟩;go_wp2_with fail;refine HCP2.mono ?_
   rintro e w' ⟨rfl,rfl⟩;go_wp2_with fail;refine HIX.mono ?_;rintro e w1 ⟨rfl,hb1⟩
   have HB1:=ah hb1;clear hb1;go_wp2
   go_ret2
   exact FloatRes.none_ HR.out HB1.out
  |some uv=>
   obtain⟨u,v⟩:=uv;rw[hcut]at hp
   dsimp only at hp
   rw[cutPM_ix q u v hcut]at hix;have hquv:=Num.cutPM_some q u v hcut
   obtain⟨m,hm⟩:=aj u.length;rw[hm]at hix
   have hmq:m+v.length=z3.size:=by rw[hz3s,hquv,rP,hm]
   have hmi:(m:Int)<=z3.size:=by omega
   have hmz:m<=z3.size:=by omega
   obtain⟨zu,hzu⟩:=aj (z3.extract 0 m);obtain⟨zv,hzv⟩:=aj (z3.extract m z3.size)
   have hzul:zu.data.toList=u:=by
    rw[<-hzu,Lib.extract_data,hz3l,hquv];simp[<-hm]
   have hzvl:zv.data.toList=v:=by
    rw[<-hzv,Lib.extract_data,hz3l,hquv,<-hm,yg];exact sG (by omega)
   have hfr:=fun W=>fraction_any zu W (by rw[Lib.size_eq,hzul];omega)
   have hex:=fun W=>exponent_any zv W (by rw[Lib.size_eq,hzvl];omega)
   rw[hzul]at hfr;rw[hzvl]at hex;have hz3b:(z3.size:Int)<=1073741824:=by omega
   have HIX:=ah hix;clear hix hcut hquv hm hzul hzvl hz3l hz3s hql
   cases hfg:Num.fracG u with
   |none=>
    rw[hfg]at hp hfr;have HR:Hid (R=none):=hp;have HFR:=ah hfr;have HEX:=ah hex
    clear hp hfg hfr hex hmq;go_enter Tryz.func211,Tryz.ntmps211;go_wp2_with fail
    refine HCP.mono ?_;rintro e w' ⟨rfl,rfl⟩;go_wp2_with fail;refine HCP2.mono ?_
    rintro e w' ⟨rfl,rfl⟩;go_wp2_with fail;refine HIX.mono ?_;rintro e w1 ⟨rfl,hb1⟩
    have HB1:=ah hb1;clear hb1;go_wp2_with fail;refine(HFR.out _).mono ?_
    rintro e w' ⟨rfl,rfl⟩;go_wp2_with fail;refine(HEX.out w1).mono ?_
    rintro e w2 ⟨ev,rfl,hev,hb2⟩;have HB2:=ah (HB1.trans (hb2.mono HB1.size));clear hb2
    clear hev;go_wp2
    go_ret2
    exact FloatRes.none_ HR.out HB2.out
   |some f=>
    cases heg:Num.expG v with
    |none=>
     rw[hfg,heg]at hp;rw[hfg]at hfr;rw[heg]at hex;have HR:Hid (R=none):=hp
     have HFR:=ah hfr;have HEX:=ah hex;clear hp hfg heg hfr hex hmq
     go_enter Tryz.func211,Tryz.ntmps211;go_wp2_with fail;refine HCP.mono ?_
     rintro e w' ⟨rfl,rfl⟩;go_wp2_with fail;refine HCP2.mono ?_;rintro e w' ⟨rfl,rfl⟩
     go_wp2_with fail;refine HIX.mono ?_;rintro e w1 ⟨rfl,hb1⟩;have HB1:=ah hb1;clear hb1
     go_wp2_with fail;refine(HFR.out _).mono ?_;rintro e w' ⟨rfl,rfl⟩;go_wp2_with fail
     refine(HEX.out w1).mono ?_;rintro e w2 ⟨ev,rfl,hev,hb2⟩
     have HB2:=ah (HB1.trans (hb2.mono HB1.size));clear hb2;clear hev;go_wp2
     go_ret2
     exact FloatRes.none_ HR.out HB2.out
    |some e0=>
     obtain⟨-,hf52⟩:=Num.fracG_form hfg;obtain⟨-,he1,he2⟩:=Num.expG_form heg
     rw[hfg,heg]at hp;rw[hfg]at hfr;rw[heg]at hex;have HFR:=ah hfr;have HEX:=ah hex
     have hp2:R=(if Num.fits f e0 then some (Num.bitsOf f e0) else none):=hp
     clear hfg heg hfr hex hmq hp
     have HLD:=ah (fun(W:World) (hb:Below w.heap.size w W)=>hL.below hb)
     clear hL;by_cases hge: -1022<=e0
     ·rw[rY (.inl hge)]at hp2
      obtain⟨x,hx⟩: ∃x:Nat,e0+1023=x:=⟨(e0+1023).toNat,by omega⟩
      have hbo:Num.bitsOf f e0=x*4503599627370496+f:=by unfold Num.bitsOf;rw[rY hge,hx];rfl
      rw[hbo]at hp2;have hx1:(1:Int)<=x:=by omega
      have hx2:(x:Int)<=2046:=by omega
      have ho1:bits BinOp.or IntKind.u64 0 ((x:Int)*4503599627370496)=(x:Int)*4503599627370496:=by
       rw[show(x:Int)*4503599627370496=((x*4503599627370496:Nat):Int) by omega,or_zero _ (by omega)]
       skip
      have ho2:bits BinOp.or IntKind.u64 ((x:Int)*4503599627370496) (f:Int)=(x:Int)*4503599627370496+f:=by
       have h:=or_frac (x) f hf52 (by omega)
       rw[show(((x)*4503599627370496:Nat):Int)=(x:Int)*4503599627370496 by omega]at h
       rw[h];omega
      have HR:=ah hp2;clear hp2 hbo;go_enter Tryz.func211,Tryz.ntmps211;go_wp2_with fail
      refine HCP.mono ?_;rintro e w' ⟨rfl,rfl⟩;go_wp2_with fail;refine HCP2.mono ?_
      rintro e w' ⟨rfl,rfl⟩;go_wp2_with fail;refine HIX.mono ?_;rintro e w1 ⟨rfl,hb1⟩
      have HB1:=ah hb1;clear hb1;go_wp2_with fail;refine(HFR.out _).mono ?_
      rintro e w' ⟨rfl,rfl⟩;go_wp2_with fail;refine(HEX.out w1).mono ?_
      rintro e w2 ⟨ev,rfl,hev,hb2⟩;have HB2:=ah (HB1.trans (hb2.mono HB1.size));clear hb2
      obtain rfl:ev=e0:=hev e0 rfl;clear hev;go_wp2
      go_ret2
      refine FloatRes.some_ (v:=(x:Int)*4503599627370496+f) (n:=x*4503599627370496+f) HR.out ?_ HB2.out
      omega
     obtain⟨d,hdd⟩: ∃d:Nat,-1022 - e0=d:=⟨(-1022 - e0).toNat,by omega⟩
     obtain⟨F,hF⟩:=aj (f+4503599627370496);have hor:=or_one f hf52;rw[hF]at hor
     have hd1:(1:Int)<=d:=by omega
     have hd2:(d:Int)<=52:=by omega
     have hF2:(F:Int)<=9007199254740992:=by omega
     have hF1:F≠0:=by omega
     have hfit:Num.fits f e0↔d<=Lib.ctz 64 F:=by
      unfold Num.fits;rw[show(-1022 - e0).toNat=d by omega,x8,hF]
      exact⟨fun h=>h.resolve_left hge,fun h=> .inr h⟩
     have hbo:Num.bitsOf f e0=F / 2 ^ d:=by
      unfold Num.bitsOf;rw[rU hge,show(-1022 - e0).toNat=d by omega,x8,hF]
     have hge':e0< -1022:=by omega
     have hged:decide (-1022<=e0)=false:=rO hge;obtain⟨ct,hct⟩:=aj (Lib.ctz 64 F)
     have HTZ:=ah (fun(W:World) (hb:Below w.heap.size w W)=>hct▸tz64_any F hF1 (by omega) W (HLD.out W hb))
     rw[hct]at hfit;rw[hbo]at hp2;by_cases hlt:ct<d
     ·have hr:R=none:=by rw[hp2,rU (fun h=>by have:=hfit.1 h;omega)]
      have HR:=ah hr;have hlt':(ct:Int)<d:=by omega
      clear hp2 hr hfit hbo hct hF hF1;go_enter Tryz.func211,Tryz.ntmps211
      go_wp2_with fail;refine HCP.mono ?_;rintro e w' ⟨rfl,rfl⟩;go_wp2_with fail
      refine HCP2.mono ?_;rintro e w' ⟨rfl,rfl⟩;go_wp2_with fail;refine HIX.mono ?_
      rintro e w1 ⟨rfl,hb1⟩;have HB1:=ah hb1;clear hb1;go_wp2_with fail
      refine(HFR.out _).mono ?_;rintro e w' ⟨rfl,rfl⟩;go_wp2_with fail
      refine(HEX.out w1).mono ?_;rintro e w2 ⟨ev,rfl,hev,hb2⟩
      have HB2:=ah (HB1.trans (hb2.mono HB1.size));clear hb2;obtain rfl:ev=e0:=hev e0 rfl
      clear hev;go_wp2_with fail;refine(HTZ.out w2 HB2.out).mono ?_;rintro e w' ⟨rfl,rfl⟩
      go_wp2
      go_ret2
      exact FloatRes.none_ HR.out HB2.out
     have hr:R=some (F / 2 ^ d):=by rw[hp2,rY (hfit.2 (by omega))]
     have HR:=ah hr;have hlt': ¬(ct:Int)<d:=by omega
     have hge3:(d:Int)<=ct:=by omega
     have hnd:decide (ct<d)=false:=rO hlt;have hq:F / 2 ^ d<=F:=Bl _ _;have HQ:=ah hq
     clear hp2 hr hfit hbo hct hF hF1 hq;go_enter Tryz.func211,Tryz.ntmps211
     go_wp2_with fail;refine HCP.mono ?_;rintro e w' ⟨rfl,rfl⟩;go_wp2_with fail
     refine HCP2.mono ?_;rintro e w' ⟨rfl,rfl⟩;go_wp2_with fail;refine HIX.mono ?_
     rintro e w1 ⟨rfl,hb1⟩;have HB1:=ah hb1;clear hb1;go_wp2_with fail
     refine(HFR.out _).mono ?_;rintro e w' ⟨rfl,rfl⟩;go_wp2_with fail
     refine(HEX.out w1).mono ?_;rintro e w2 ⟨ev,rfl,hev,hb2⟩
     have HB2:=ah (HB1.trans (hb2.mono HB1.size));clear hb2;obtain rfl:ev=e0:=hev e0 rfl
     clear hev;go_wp2_with fail;refine(HTZ.out w2 HB2.out).mono ?_;rintro e w' ⟨rfl,rfl⟩
     go_wp2
     go_ret2
     refine FloatRes.some_ (v:=bits BinOp.or IntKind.u64 0 ((F:Int) / 2 ^ d)) (n:=F / 2 ^ d) HR.out ?_ HB2.out
     rw[show(F:Int) / 2 ^ d=((F / 2 ^ d:Nat):Int) by simp]
     have hq:=HQ.out;exact or_zero _ (by omega)
namespace Lex
end Lex
theorem byte_le (c:UInt8):(c.toNat:Int)<=255:=by have:=zX c;omega
theorem drop_at' {s:ByteArray} {k:Nat} (h:k<s.size):s.data.toList.drop k=s[k] :: s.data.toList.drop (k+1):=by
 have h1:k<s.data.toList.length:=by rw[<-Lib.size_eq];exact h
 rw[tJ h1];rfl
end Go.Proofs.YtanlehkalkafdaaGreatDoor
namespace Go.Proofs
open Go.Shelf
def Tryz.bld_ren:Go.Shelf.Ren:=⟨fun|166=>54|167=>58|240=>100|276=>139|169=>55|n=>n,fun|0=>0|3=>3|4=>4|5=>5|9=>9|20=>20|37=>104|70=>103|72=>106|75=>109|80=>112|164=>193|127=>154|n=>n,fun|n=>n⟩
theorem Tryz.bld166:Go.Proofs.Lays.n166 Tryz.prog Tryz.bld_ren:=by
 repeat' first|kernel_rfl|exact fun _=>rfl|constructor
theorem Tryz.bld167:Go.Proofs.Lays.n167 Tryz.prog Tryz.bld_ren:=by
 repeat' first|kernel_rfl|exact fun _=>rfl|constructor
theorem Tryz.bld169:Go.Proofs.Lays.n169 Tryz.prog Tryz.bld_ren:=by
 repeat' first|kernel_rfl|exact fun _=>rfl|constructor
theorem Tryz.bldX:Builder.Extra Tryz.prog Tryz.bld_ren:={
 sizeBuilder:=by kernel_rfl
 liesBuilder:=by kernel_rfl
 t5:=Tryz.underlying5
 a5:=Tryz.isAgg5
 z5:=Tryz.sizeOf5
 v5:=Tryz.zeroValue5
 infoByte:=by kernel_rfl
 cellsByte:=by kernel_rfl
 sizeByte:=by kernel_rfl
 neB5:=by decide}
end Go.Proofs
namespace Go.Proofs.YtanlehkalkafdaaGreatDoor
open Go.RowKit
def Bld (B b:Nat) (l:List UInt8) (w:World):Prop:=Lib.IsBuilderF 106 5 B b (Lib.byteCells l) w
theorem Bld.fresh (w:World):Bld w.heap.size w.heap.size [] (w.alloc (.cells #[.pointer none,.slice none 0 0] 106)):=
 Lib.IsBuilderF.of (Lib.fresh_isBuilder _ _ w)
theorem bytes_str (s:ByteArray):Lib.strCells s=Lib.byteCells s.data.toList:=by
 rfl
theorem bytes_app (a b:List UInt8):Lib.byteCells (a++b)=Lib.byteCells a++Lib.byteCells b:=by
 simp[Lib.byteCells]
theorem builderAt_kept {T e B b g:Nat} {q:Value} {bs:List Value} {w w':World} (h:Lib.BuilderAtF T e B b q bs w) (hg:w.grownBy w' (some g)) (h1:b≠g) (h2: ∀v,w.ownsRowF B e 1 v bs.length bs->v.ownBlock≠some g):Lib.BuilderAtF T e B b q bs w':=by
 obtain⟨hB,v,hb,hown,hne⟩:=h;have hlt:b<w.heap.size:=(sW.1 hb).1
 exact⟨hB,v,(hg.block b hlt (by simpa using h1)).trans hb,hown.kept hg (.inr (h2 v hown)),hne⟩
theorem Bld.kept_lt {B b g:Nat} {l:List UInt8} {w w':World} (h:Bld B b l w) (hg:w.grownBy w' (some g)) (hlt:g<B):Bld B b l w':=by
 have key: ∀v,w.ownsRowF B 5 1 v (Lib.byteCells l).length (Lib.byteCells l)->v.ownBlock≠some g:=fun v hv e=>by have:=(hv.lt g e).1;omega
 have hb: ∀{T e q bs},Lib.BuilderAtF T e B b q bs w->b≠g:=fun h=>by have:=h.1;omega
 exact h.imp (fun x=>builderAt_kept x hg (hb x) key) (fun x=>builderAt_kept x hg (hb x) key)
theorem Bld.below {B b:Nat} {l:List UInt8} {w w':World} (h:Bld B b l w) (hb:Below w.heap.size w w'):Bld B b l w':=by
 have hg:w.grownBy w' (some w.heap.size):=⟨hb.os,hb.tape,hb.output,hb.size,fun i hi _=>hb.block i hi⟩
 have hlt: ∀{T e q bs},Lib.BuilderAtF T e B b q bs w->b≠w.heap.size:=fun h=>by
  obtain⟨_,v,hb,_⟩:=h;have:=(sW.1 hb).1;omega
 have key: ∀v,w.ownsRowF B 5 1 v (Lib.byteCells l).length (Lib.byteCells l)->v.ownBlock≠some w.heap.size:=fun v hv e=>by have:=(hv.lt _ e).2;omega
 exact h.imp (fun x=>builderAt_kept x hg (hlt x) key) (fun x=>builderAt_kept x hg (hlt x) key)
theorem grownBy_set (w:World) (p:Addr) (v:Value):w.grownBy (w.setCell p v) (some p.block):=
 ⟨rfl,rfl,rfl,by simp[World.setCell],fun k _ hne=>Below.heap_setCell w p v k (fun e=>hne (by rw[e]))⟩
theorem bld_byte (B b:Nat) (l:List UInt8) (c:Int) (w:World) (h:Bld B b l w) (h0:0<=c) (h1:c<256) (hlen:l.length<1073741824) (hB:B<=w.heap.size):
  Calls Tryz.prog 58 #[.pointer (some ⟨b,0,none⟩),.int .u8 c] w fun e w'=>e=.returned .nilIface/\Bld B b (l++[c.toNat.toUInt8]) w'/\Below B w w'/\Lib.OthersKept 5 (some b) w w':=by
 refine(Any.Builder_WriteByte_k Tryz.bld167 Tryz.bldX B b _ c w h (by rw[Lib.byteCells_length];omega) hB).mono fun e w' ⟨he,hb,h2,h3⟩=>⟨he, ?_,h2,h3⟩
 unfold Bld;rw[bytes_app]
 have e:Lib.byteCells [c.toNat.toUInt8]=[.int .u8 c]:=by
  have:c.toNat % 256=c.toNat:=Nat.mod_eq_of_lt (by omega)
  simp[Lib.byteCells,this,Int.toNat_of_nonneg h0]
 rw[e];exact .inr hb
theorem bld_str (B b:Nat) (l:List UInt8) (s:ByteArray) (w:World) (h:Bld B b l w) (hs:s.size<1073741824) (hlen:l.length<1073741824) (hB:B<=w.heap.size):
  Calls Tryz.prog 54 #[.pointer (some ⟨b,0,none⟩),.string s] w fun e w'=>e=.returned (.tuple #[.int .i64 s.size,.nilIface])/\Bld B b (l++s.data.toList) w'/\Below B w w'/\Lib.OthersKept 5 (some b) w w':=by
 refine(Any.Builder_WriteString_k Tryz.bld166 Tryz.bldX B b _ s w h (by rw[Lib.byteCells_length];omega) hB).mono fun e w' ⟨he,hb,h2,h3⟩=>⟨he, ?_,h2,h3⟩
 unfold Bld;rw[bytes_app,<-bytes_str];exact .inr hb
theorem bld_string (B b:Nat) (l:List UInt8) (w:World) (h:Bld B b l w) (hB:B<=w.heap.size):
  Calls Tryz.prog 55 #[.pointer (some ⟨b,0,none⟩)] w fun e w'=>e=.returned (.string ⟨l.toArray⟩)/\Bld B b l w'/\Below B w w'/\Lib.OthersKept 5 (some b) w w':=
 Any.Builder_String_any_k Tryz.bld169 Tryz.bldX B b l w h hB
theorem byte_back (c:UInt8):((c.toNat:Int)).toNat.toUInt8=c:=by simp
theorem hexv_lt_fin: ∀c:Fin 256,∀d∈Num.hexv (UInt8.ofNat c.val),d<16:=by decide+kernel
theorem hexv_lt {c:UInt8} {d:Nat} (h:Num.hexv c=some d):d<16:=
 hexv_lt_fin ⟨c.toNat,zX c⟩ d (by simpa using h)
theorem bq {c:UInt8} {k:UInt8} {n:Int} (hn:(k.toNat:Int)=n) {b:Bool} (h:(c == k)=b):((c.toNat:Int) == n)=b:=by
 rw[<-h,<-hn,wJ,uw,uw,<-vS];omega
theorem at_extract {s:ByteArray} {k:Nat} (h:k<s.size):s.data.toList[k]?=some (s[k]'h):=by
 have h1:k<s.data.toList.length:=by rw[<-Lib.size_eq];exact h
 rw[ay h1];rfl
theorem parseFloat_any (s:ByteArray) (w:World) (hs:s.size<=1073741824) (hL:Laid w):
  Calls Tryz.prog 211 #[.string s] w (FloatRes (Num.parse s.data.toList) w):=by
 by_cases hn:s.data.toList=Num.NANS
 ·have t1:(s.toList ==[48,120,110,97,110])=true:=by rw[Lib.toList_data,hn];rfl
  have hp:Num.parse s.data.toList=some 9221120237041090560:=by unfold Num.parse;rw[rY hn]
  rw[hp];clear hp hn hL;go_enter Tryz.func211,Tryz.ntmps211;go_wp2
  go_ret2
  exact⟨rfl,Below.refl _ _⟩
 by_cases hh:s.data.toList.head?=some 45
 ·exact parseFloat1 s w hs hL hn hh
 exact parseFloat0 s w hs hL hn hh
theorem Blk.cast {W:World} {g:Nat} {T:TypeId} {cs cs':Array Value} (h:Blk W g T cs) (e:cs=cs'):Blk W g T cs':=e▸h
theorem add_at (b off j:Nat):(⟨b,off,none⟩:Addr).add j=⟨b,off+j,none⟩:=by
 unfold Addr.add
 split<;>simp_all
section
variable {P:Program} (w:World)
theorem run_append_of_nil (base:Nat) (t ty e:TypeId) (i:TypeInfo) (size:Nat) (ht:P.underlying t=some (.slice e)) (hi:P.info? e=some i)
  (v:Value) (n:Nat) (xs:List Value) (hown:w.ownsRow base e size v n xs) (c:Nat):(Builtin.append_ #[t,t] ty #[v,.slice none 0 c]).run P w=.ok v w:=by
 rcases hown.2 with⟨rfl,rfl⟩|⟨g,cap,cur,rfl,_,_,hnc,_⟩
 ·simp[Builtin.append_,run_underlying ht,sizeOf,typeInfo,hi,Builtin.lenOf,Builtin.firstCells]
 simp[Builtin.append_,run_underlying ht,sizeOf,typeInfo,hi,Builtin.lenOf,Builtin.firstCells,hnc,storeCells]
theorem run_append_any (base:Nat) (t ty e:TypeId) (i:TypeInfo) (z:Value) (size bytes:Nat) (ht:P.underlying t=some (.slice e)) (hi:P.info? e=some i) (hz:i.zero=some z)
  (hsize:i.size=size) (hby:i.bytes=bytes) (hzs:z.cells.size=size) (hsz:0<size)
  (v:Value) (n:Nat) (xs:List Value) (hown:w.ownsRow base e size v n xs)
  (B:Nat) (A:Option Addr) (m c:Nat) (news:List Value) (hr:Reads w B size A m news) (h1: ∀u∈news,u.oneCell'=true)
  (h63:n+m<=maxLen) (hbytes:(n+m)*bytes<=140737488355328) (hbase:base<=w.heap.size):
  ∃v' w',(Builtin.append_ #[t,t] ty #[v,.slice A m c]).run P w=.ok v' w'/\w'.ownsRow base e size v' (n+m) (xs++news)/\w.grownBy w' v.ownBlock/\
   (v'.ownBlock=v.ownBlock\/v'.ownBlock=some w.heap.size):=by
 rcases A with _|ad
 ·have hm:m=0:=by
   rcases uY m with h0|h0
   ·exact h0
   obtain⟨_,_,h,_⟩:=hr.2 h0;cases h
  subst hm;have hn:news=[]:=sH (by simpa using hr.1)
  subst hn
  exact⟨v,w,run_append_of_nil w base t ty e i size ht hi v n xs hown c,by simpa using hown,World.grownBy.refl w _,.inl rfl⟩
 have hcells: ∀j u,news[j]?=some u->w.cell? (ad.add j)=some u:=by
  intro j u hu
  rcases uY m with h0|h0
  ·subst h0
   have hn:news=[]:=sH (by simpa using hr.1)
   subst hn;simp at hu
  obtain⟨b',off',h,_,hc⟩:=hr.2 h0;cases h;rw[add_at];exact hc j u hu
 obtain⟨v',w',hrun,h2,h3,_,h5⟩:=run_append_own_at (P:=P) w base t ty e i z size bytes ht hi hz hsize hby hzs hsz v n xs hown ad m c news hr.1 hcells h1 h63 hbytes hbase
 exact⟨v',w',hrun,h2,h3,h5⟩
theorem wp_append_any {o:Oper} {a:Act} {K:Act->World->Prop} {Q:Exit->Act->World->Prop} (s x:Operand) (t:TypeId)
  (ho:o.op=.call {callee:=.builtin .append,args:= #[s,x],argTypes:= #[t,t]})
  (base:Nat) (e:TypeId) (i:TypeInfo) (z:Value) (size bytes:Nat) (ht:P.underlying t=some (.slice e)) (hi:P.info? e=some i) (hz:i.zero=some z)
  (hsize:i.size=size) (hby:i.bytes=bytes) (hzs:z.cells.size=size) (hsz:0<size)
  (v:Value) (n:Nat) (xs:List Value) (hs:a.eval s=v) (hown:w.ownsRow base e size v n xs)
  (B:Nat) (A:Option Addr) (m c:Nat) (news:List Value) (hx:a.eval x=.slice A m c) (hr:Reads w B size A m news) (h1: ∀u∈news,u.oneCell'=true)
  (h63:n+m<=maxLen) (hbytes:(n+m)*bytes<=140737488355328) (hbase:base<=w.heap.size)
  (h: ∀v' w',w'.ownsRow base e size v' (n+m) (xs++news)->w.grownBy w' v.ownBlock->(v'.ownBlock=v.ownBlock\/v'.ownBlock=some w.heap.size)->K (a.put o.dst v') w'):o.wp P a w K Q:=by
 obtain⟨v',w',hrun,h2,h3,h4⟩:=run_append_any (P:=P) w base t o.type e i z size bytes ht hi hz hsize hby hzs hsz v n xs hown B A m c news hr h1 h63 hbytes hbase
 unfold Oper.wp execOp
 simp only[ho,resolve,invoke,builtin,Sem.run_bind,Sem.run_pure,Result.andThen_ok,zF,tV,uT,hs,hx,hrun]
 exact h v' w' h2 h3 h4
theorem wpList_append_any {ops:Array Oper} {rest:List Oper} {o:Oper} {a:Act} {Q:Exit->Act->World->Prop} (hgd:o.guard=none) (s x:Operand) (t:TypeId)
  (ho:o.op=.call {callee:=.builtin .append,args:= #[s,x],argTypes:= #[t,t]})
  (base:Nat) (e:TypeId) (i:TypeInfo) (z:Value) (size bytes:Nat) (ht:P.underlying t=some (.slice e)) (hi:P.info? e=some i) (hz:i.zero=some z)
  (hsize:i.size=size) (hby:i.bytes=bytes) (hzs:z.cells.size=size) (hsz:0<size)
  (v:Value) (n:Nat) (xs:List Value) (hs:a.eval s=v) (hown:w.ownsRow base e size v n xs)
  (B:Nat) (A:Option Addr) (m c:Nat) (news:List Value) (hx:a.eval x=.slice A m c) (hr:Reads w B size A m news) (h1: ∀u∈news,u.oneCell'=true)
  (h63:n+m<=maxLen) (hbytes:(n+m)*bytes<=140737488355328) (hbase:base<=w.heap.size)
  (h: ∀v' w',w'.ownsRow base e size v' (n+m) (xs++news)->w.grownBy w' v.ownBlock->(v'.ownBlock=v.ownBlock\/v'.ownBlock=some w.heap.size)->wpList P ops Q rest (a.put o.dst v') w'):wpList P ops Q (o :: rest) a w:=
 wpList_plain hgd fun _ hK=>wp_append_any w s x t ho base e i z size bytes ht hi hz hsize hby hzs hsz v n xs hs hown B A m c news hx hr h1 h63 hbytes hbase fun v' w' h2 h3 h4=>hK _ _ (h v' w' h2 h3 h4)
end
theorem own_empty (w:World) (base e _cap:Nat) (cs:Array Value) (hb:base<=w.heap.size) (h:cs.size=0):(w.alloc (.cells cs e)).ownsRow base e 1 (.slice (some ⟨w.heap.size,0,none⟩) 0 0) 0 []:=
 World.ownsRow_made w cs 0 hb (by unfold maxLen;omega) (by omega)
end Go.Proofs.YtanlehkalkafdaaGreatDoor
