/- Contracts and plain laws,part 7. -/
import Derived.Test.YtoofbflplhbpbaaGreatDoorUO06
set_option maxHeartbeats 64000000
set_option maxRecDepth 1000000
set_option linter.all false
namespace Go.Proofs.YtoofbflplhbpbaaGreatDoor
open Go.RowKit
theorem Qu: ∀l:List UInt8,Num.jJ l=none->Lib.indexAny l [112,109]= -1
 | [],_=>rfl
 | c :: r,h=>by
  simp only [Num.jJ] at h
  split at h
  ·cases h
  rename_i hc
  have hr:Num.jJ r=none:=by
   cases h2:Num.jJ r with
   | none=>rfl
   | some x=>rw [h2] at h;cases h
  have hcon: [112,109].contains c=false:=by
   have h1:c≠112:=fun e=>hc (.inl e)
   have h2:c≠109:=fun e=>hc (.inr e)
   simp [h1,h2]
  simp only [Lib.indexAny,hcon,Qu r hr];rfl
theorem Qv: ∀(l u v:List UInt8),Num.jJ l=some (u,v)->Lib.indexAny l [112,109]=u.length
 | [],u,v,h=>by simp [Num.jJ] at h
 | c :: r,u,v,h=>by
  simp only [Num.jJ] at h
  split at h
  ·rename_i hc
   simp only [ads,adL] at h;obtain ⟨rfl,rfl⟩:=h
   have hcon: [112,109].contains c=true:=by
    rcases hc with rfl | rfl<;> decide
   simp only [Lib.indexAny,hcon];rfl
  rename_i hc;cases h2:Num.jJ r with
  | none=>rw [h2] at h;cases h
  | some x=>
   rw [h2] at h;simp only [aej,ads,adL] at h;obtain ⟨rfl,rfl⟩:=h
   have hcon: [112,109].contains c=false:=by
    have h1:c≠112:=fun e=>hc (.inl e)
    have h2:c≠109:=fun e=>hc (.inr e)
    simp [h1,h2]
   have ih:=Qv r x.1 x.2 h2;simp only [Lib.indexAny,hcon,ih,acd]
   have hne:(((x.1.length:Int)) == -1)=false:=by rw [ab3];omega
   rw [hne];simp
def iU (r:Option Nat) (w:World) (e:Ending) (w':World):Prop:=e= .returned (.tuple #[.int .u64 (r.getD 0:Nat), .int .i64 (if r.isSome then 0 else 52)])/\Below w.heap.size w w'
theorem iU.none_ {r:Option Nat} {w w':World} (h:r=none) (hb:Below w.heap.size w w'):iU r w (.returned (.tuple #[.int .u64 0, .int .i64 52])) w':=by
 subst h;exact ⟨rfl,hb⟩
theorem iU.some_ {r:Option Nat} {w w':World} {v:Int} {n:Nat} (h:r=some n) (hv:v=n) (hb:Below w.heap.size w w'):iU r w (.returned (.tuple #[.int .u64 v, .int .i64 0])) w':=by
 subst h hv;exact ⟨rfl,hb⟩
theorem Yg (a:Nat) (ha:a<9223372036854775808):bits BinOp.or IntKind.u64 9223372036854775808 (a:Int)=((9223372036854775808+a:Nat):Int):=by
 rw [show (9223372036854775808:Int)=((9223372036854775808:Nat):Int) from rfl,bits_or_u64_nat _ _ (by omega) (by omega)]
 congr 1
 have h:=alR (i:=63) (b:=a) ha 1;rw [show (9223372036854775808:Nat)=2 ^ 63*1 from rfl,<-h]
theorem or_zero (a:Nat) (ha:a<18446744073709551616):bits BinOp.or IntKind.u64 0 (a:Int)=(a:Int):=by
 rw [show (0:Int)=((0:Nat):Int) from rfl,bits_or_u64_nat _ _ (by omega) (by omega),Nat.zero_or]
theorem Yh (a f:Nat) (hf:f<4503599627370496) (ha:a<4096):bits BinOp.or IntKind.u64 ((a*4503599627370496:Nat):Int) (f:Int)=((a*4503599627370496+f:Nat):Int):=by
 rw [bits_or_u64_nat _ _ (by omega) (by omega)]
 congr 1
 have h:=alR (i:=52) (b:=f) hf a;rw [ald,show (4503599627370496:Nat)=2 ^ 52 from rfl,<-h]
theorem Yi (l:List UInt8):Lib.hasPrefix l [45]=decide (l.head?=some 45):=by
 unfold Lib.hasPrefix;cases l with
 | nil=>simp
 | cons c t=>
  simp only [List.isPrefixOf,anF,al6,ads];by_cases h:c=45
  ·subst h;decide
  rw [abX h]
  simpa using fun e=>h e.symm
theorem MI (j:Nat) (b:UInt8) (hj:((⟨#[112,109]⟩:ByteArray).data.toList)[j]?=some b):b.toNat<128:=by
 have:b∈([112,109]:List UInt8):=acf hj
 rcases adK.1 this with rfl | h
 ·decide
 rw [adg.1 h];decide
theorem Fj {l:List UInt8} {m:List UInt8} (h:l≠m):(l == m)=false:=by
 cases hq:l == m with
 | false=>rfl
 | true=>exact absurd (eq_of_beq hq) h
theorem akk (s:ByteArray) (w:World) (hs:s.size<=1073741824) (hL:Laid w) (fB:s.data.toList≠Num.tZ) (hh:s.data.toList.head?=some 45):
  Calls Tryz.prog 122 #[.string s] w (iU (Num.parse s.data.toList) w):=by
 have hcp:=Tryz.strings_CutPrefix s ⟨#[45]⟩ w
 have e45:(⟨#[45]⟩:ByteArray).data.toList= [45]:=rfl;rw [e45,L8,Yi,ab7 hh,abW hh] at hcp
 have hp:Num.parse s.data.toList=(Num.jW (s.data.toList.drop 1)).map (9223372036854775808+ ·):=by unfold Num.parse;rw [ab6 fB,ab7 hh]
 have hn1:(s.toList == [48,120,110,97,110])=false:=by rw [Lib.toList_data];exact Fj fB
 obtain ⟨t,ht⟩: ∃t,s.data.toList.drop 1=t:=⟨_,rfl⟩
 have htl:t.length<=1073741824:=by rw [<-ht,acM,<-Lib.size_eq];omega
 obtain ⟨R,hR⟩: ∃R,Num.parse s.data.toList=R:=⟨_,rfl⟩;rw [hR];rw [hR,ht] at hp
 rw [ht] at hcp;obtain ⟨z,hz⟩: ∃z:ByteArray,(⟨t.toArray⟩:ByteArray)=z:=⟨_,rfl⟩
 have hzl:z.data.toList=t:=by rw [<-hz]
 have hzs:z.size=t.length:=by rw [<-hz,bf]
 rw [hz] at hcp;have Jq:=hcp.mono fun e w' (h:_/\w'=w)=>(⟨h.1,h.2.symm⟩:_/\w=w')
 have bQ:=ah Jq;clear hcp Jq e45 fB hh ht hR hz;by_cases dK:t=Num.xu
 ·have t1:(z.toList == [48,120,105,110,102])=true:=by rw [Lib.toList_data,hzl,dK];rfl
  have hv:Num.jW t=some 9218868437227405312:=by unfold Num.jW;rw [ab7 dK]
  rw [hv] at hp;have HR:=ah hp
  have hor:bits BinOp.or IntKind.u64 9223372036854775808 9218868437227405312=18442240474082181120:=by decide
  clear hp hv dK hzl hzs htl;go_enter Tryz.func122,Tryz.ntmps122;go_wp2_with fail
  refine bQ.out.mono ?_;rintro e w' ⟨rfl,rfl⟩;go_wp2
  go_ret2
  exact iU.some_ HR.out (by rfl) (Below.refl _ _)
 have t1:(z.toList == [48,120,105,110,102])=false:=by rw [Lib.toList_data,hzl];exact Fj dK
 by_cases hzero:t=Num.ZERO
 ·have t2:(z.toList == [48,120,48])=true:=by rw [Lib.toList_data,hzl,hzero];rfl
  have hv:Num.jW t=some 0:=by unfold Num.jW;rw [ab6 dK,ab7 hzero]
  rw [hv] at hp;have HR:=ah hp;clear hp hv dK hzero hzl hzs htl
  go_enter Tryz.func122,Tryz.ntmps122;go_wp2_with fail;refine bQ.out.mono ?_
  rintro e w' ⟨rfl,rfl⟩;go_wp2
  go_ret2
  exact iU.some_ HR.out (by rfl) (Below.refl _ _)
 have t2:(z.toList == [48,120,48])=false:=by rw [Lib.toList_data,hzl];exact Fj hzero
 have hv:Num.jW t=match Num.pair t with | none=>none | some (f,e)=>if Num.fits f e then some (Num.bitsOf f e) else none:=by unfold Num.jW;rw [ab6 dK,ab6 hzero];rfl
 rw [hv] at hp;clear hv dK hzero
 have hcp2:=(Tryz.strings_CutPrefix z ⟨#[48,120,49]⟩ w).mono fun e w' (h:_/\w'=w)=>(⟨h.1,h.2.symm⟩:_/\w=w')
 have e01:(⟨#[48,120,49]⟩:ByteArray).data.toList= [48,120,49]:=rfl;rw [hzl,e01] at hcp2
 cases hpre:Lib.hasPrefix t [48,120,49] with
 | false=>
  have vX:Num.pair t=none:=by unfold Num.pair;rw [hpre];rfl
  have htp:Lib.trimPrefix t [48,120,49]=t:=by unfold Lib.trimPrefix;rw [hpre];rfl
  rw [vX] at hp;rw [hpre,htp] at hcp2;have HR:=ah hp;have lQ:=ah hcp2
  obtain ⟨z3,hz3⟩: ∃z:ByteArray,(⟨t.toArray⟩:ByteArray)=z:=⟨_,rfl⟩;rw [hz3] at lQ
  have hix:=MH z3 ⟨#[112,109]⟩ w (by rw [<-hz3,bf];omega) (by decide) (by decide) (fun j b hj=>MI j b hj)
  obtain ⟨ix,Jr⟩: ∃i,Lib.indexAny z3.data.toList (⟨#[112,109]⟩:ByteArray).data.toList=i:=⟨_,rfl⟩
  rw [Jr] at hix;have lS:=ah hix;clear hp vX htp hpre hcp2 hix Jr hz3 hzl hzs htl e01
  go_enter Tryz.func122,Tryz.ntmps122;go_wp2_with fail;refine bQ.out.mono ?_
  rintro e w' ⟨rfl,rfl⟩;go_wp2_with fail;refine lQ.out.mono ?_;rintro e w' ⟨rfl,rfl⟩
  go_wp2_with fail;refine lS.out.mono ?_;rintro e w1 ⟨rfl,hb1⟩;have HB1:=ah hb1;clear hb1
  go_wp2
  go_ret2
  exact iU.none_ HR.out HB1.out
 | true=>
  obtain ⟨q,hq⟩: ∃q,t.drop 3=q:=⟨_,rfl⟩
  have htp:Lib.trimPrefix t [48,120,49]=q:=by unfold Lib.trimPrefix;rw [hpre,<-hq];rfl
  have DJ:q.length<=1073741824:=by rw [<-hq,acM];omega
  have vX:Num.pair t=match Num.jJ q with | none=>none | some (u,v)=>match Num.kP u,Num.oZ v with | some f,some e=>some (f,e) | _,_=>none:=by unfold Num.pair;rw [ab7 hpre,hq];rfl
  rw [vX] at hp;rw [hpre,htp] at hcp2
  obtain ⟨z3,hz3⟩: ∃z:ByteArray,(⟨q.toArray⟩:ByteArray)=z:=⟨_,rfl⟩;rw [hz3] at hcp2
  have vY:z3.data.toList=q:=by rw [<-hz3]
  have DK:z3.size=q.length:=by rw [<-hz3,bf]
  have lQ:=ah hcp2
  have hix:=MH z3 ⟨#[112,109]⟩ w (by omega) (by decide) (by decide) (fun j b hj=>MI j b hj)
  rw [vY] at hix;have Js:(⟨#[112,109]⟩:ByteArray).data.toList= [112,109]:=rfl
  rw [Js] at hix;clear htp vX hpre hcp2 hzl hzs htl hq hz3 e01 Js;cases hcut:Num.jJ q with
  | none=>
   rw [hcut] at hp;rw [Qu q hcut] at hix;have lS:=ah hix;have HR:=ah hp
   clear hp hcut hix vY DK DJ;go_enter Tryz.func122,Tryz.ntmps122;go_wp2_with fail
   refine bQ.out.mono ?_;rintro e w' ⟨rfl,rfl⟩;go_wp2_with fail;refine lQ.out.mono ?_
   rintro e w' ⟨rfl,rfl⟩;go_wp2_with fail;refine lS.out.mono ?_;rintro e w1 ⟨rfl,hb1⟩
   have HB1:=ah hb1;clear hb1;go_wp2
   go_ret2
   exact iU.none_ HR.out HB1.out
  | some uv=>
   obtain ⟨u,v⟩:=uv;rw [hcut] at hp
   dsimp only at hp
   rw [Qv q u v hcut] at hix;have zH:=Num.LW q u v hcut
   obtain ⟨m,hm⟩: ∃m,u.length=m:=⟨_,rfl⟩;rw [hm] at hix
   have zJ:m+v.length=z3.size:=by rw [DK,zH,dA,hm]
   have BM:(m:Int)<=z3.size:=by omega
   have hmz:m<=z3.size:=by omega
   obtain ⟨zu,hzu⟩: ∃z,z3.extract 0 m=z:=⟨_,rfl⟩
   obtain ⟨zv,hzv⟩: ∃z,z3.extract m z3.size=z:=⟨_,rfl⟩
   have DL:zu.data.toList=u:=by
    rw [<-hzu,Lib.extract_data,vY,zH];simp [<-hm]
   have DN:zv.data.toList=v:=by
    rw [<-hzv,Lib.extract_data,vY,zH,<-hm,ak5];exact acg (by omega)
   have hfr:=fun W=>Yd zu W (by rw [Lib.size_eq,DL];omega)
   have hex:=fun W=>Yf zv W (by rw [Lib.size_eq,DN];omega)
   rw [DL] at hfr;rw [DN] at hex;have hz3b:(z3.size:Int)<=1073741824:=by omega
   have lS:=ah hix;clear hix hcut zH hm DL DN vY DK DJ;cases hfg:Num.kP u with
   | none=>
    rw [hfg] at hp hfr;have HR:Hid (R=none):=hp;have mQ:=ah hfr;have HEX:=ah hex
    clear hp hfg hfr hex zJ;go_enter Tryz.func122,Tryz.ntmps122;go_wp2_with fail
    refine bQ.out.mono ?_;rintro e w' ⟨rfl,rfl⟩;go_wp2_with fail;refine lQ.out.mono ?_
    rintro e w' ⟨rfl,rfl⟩;go_wp2_with fail;refine lS.out.mono ?_;rintro e w1 ⟨rfl,hb1⟩
    have HB1:=ah hb1;clear hb1;go_wp2_with fail;refine (mQ.out _).mono ?_
    rintro e w' ⟨rfl,rfl⟩;go_wp2_with fail;refine (HEX.out w1).mono ?_
    rintro e w2 ⟨ev,rfl,hev,hb2⟩;have HB2:=ah (HB1.out.trans (hb2.mono HB1.out.size))
    clear hb2;clear hev;go_wp2
    go_ret2
    exact iU.none_ HR.out HB2.out
   | some f=>
    cases pK:Num.oZ v with
    | none=>
     rw [hfg,pK] at hp;rw [hfg] at hfr;rw [pK] at hex;have HR:Hid (R=none):=hp
     have mQ:=ah hfr;have HEX:=ah hex;clear hp hfg pK hfr hex zJ
     go_enter Tryz.func122,Tryz.ntmps122;go_wp2_with fail;refine bQ.out.mono ?_
     rintro e w' ⟨rfl,rfl⟩;go_wp2_with fail;refine lQ.out.mono ?_;rintro e w' ⟨rfl,rfl⟩
     go_wp2_with fail;refine lS.out.mono ?_;rintro e w1 ⟨rfl,hb1⟩;have HB1:=ah hb1
     clear hb1;go_wp2_with fail;refine (mQ.out _).mono ?_;rintro e w' ⟨rfl,rfl⟩
     go_wp2_with fail;refine (HEX.out w1).mono ?_;rintro e w2 ⟨ev,rfl,hev,hb2⟩
     have HB2:=ah (HB1.out.trans (hb2.mono HB1.out.size));clear hb2;clear hev;go_wp2
     go_ret2
     exact iU.none_ HR.out HB2.out
    | some e0=>
     obtain ⟨-,Jt⟩:=Num.PX hfg;obtain ⟨-,he1,he2⟩:=Num.P8 pK;rw [hfg,pK] at hp
     rw [hfg] at hfr;rw [pK] at hex;have mQ:=ah hfr;have HEX:=ah hex
     have hp2:R=(if Num.fits f e0 then some (Num.bitsOf f e0) else none).map (9223372036854775808+ ·):=hp
     clear hfg pK hfr hex zJ hp
     have jC:=ah (fun (W:World) (hb:Below w.heap.size w W)=>hL.below hb)
     clear hL;by_cases hge: -1022<=e0
     ·rw [ab7 (.inl hge)] at hp2
      obtain ⟨x,hx⟩: ∃x:Nat,e0+1023=x:=⟨(e0+1023).toNat,by omega⟩
      have sF:Num.bitsOf f e0=x*4503599627370496+f:=by unfold Num.bitsOf;rw [ab7 hge,hx];rfl
      rw [sF] at hp2;have hx1:(1:Int)<=x:=by omega
      have hx2:(x:Int)<=2046:=by omega
      have ho1:bits BinOp.or IntKind.u64 9223372036854775808 ((x:Int)*4503599627370496)=(2048+(x:Int))*4503599627370496:=by
       rw [show (x:Int)*4503599627370496=((x*4503599627370496:Nat):Int) by omega,Yg _ (by omega)]
       omega
      have ho2:bits BinOp.or IntKind.u64 ((2048+(x:Int))*4503599627370496) (f:Int)=(2048+(x:Int))*4503599627370496+f:=by
       have h:=Yh (2048+x) f Jt (by omega)
       rw [show (((2048+x)*4503599627370496:Nat):Int)=(2048+(x:Int))*4503599627370496 by omega] at h
       rw [h];omega
      have HR:=ah hp2;clear hp2 sF;go_enter Tryz.func122,Tryz.ntmps122;go_wp2_with fail
      refine bQ.out.mono ?_;rintro e w' ⟨rfl,rfl⟩;go_wp2_with fail;refine lQ.out.mono ?_
      rintro e w' ⟨rfl,rfl⟩;go_wp2_with fail;refine lS.out.mono ?_;rintro e w1 ⟨rfl,hb1⟩
      have HB1:=ah hb1;clear hb1;go_wp2_with fail;refine (mQ.out _).mono ?_
      rintro e w' ⟨rfl,rfl⟩;go_wp2_with fail;refine (HEX.out w1).mono ?_
      rintro e w2 ⟨ev,rfl,hev,hb2⟩;have HB2:=ah (HB1.out.trans (hb2.mono HB1.out.size))
      clear hb2;obtain rfl:ev=e0:=hev e0 rfl;clear hev;go_wp2
      go_ret2
      refine iU.some_ (v:=(2048+(x:Int))*4503599627370496+f) (n:=9223372036854775808+(x*4503599627370496+f)) HR.out ?_ HB2.out
      omega
     obtain ⟨d,hdd⟩: ∃d:Nat,-1022 - e0=d:=⟨(-1022 - e0).toNat,by omega⟩
     obtain ⟨F,hF⟩: ∃F,f+4503599627370496=F:=⟨_,rfl⟩;have hor:=or_one f Jt;rw [hF] at hor
     have hd1:(1:Int)<=d:=by omega
     have hd2:(d:Int)<=52:=by omega
     have hF2:(F:Int)<=9007199254740992:=by omega
     have hF1:F≠0:=by omega
     have hfit:Num.fits f e0↔d<=Lib.ctz 64 F:=by
      unfold Num.fits;rw [show (-1022 - e0).toNat=d by omega,ali,hF]
      exact ⟨fun h=>h.resolve_left hge,fun h=> .inr h⟩
     have sF:Num.bitsOf f e0=F / 2 ^ d:=by
      unfold Num.bitsOf;rw [ab6 hge,show (-1022 - e0).toNat=d by omega,ali,hF]
     have hge':e0< -1022:=by omega
     have akl:decide (-1022<=e0)=false:=abX hge;obtain ⟨ct,hct⟩: ∃c,Lib.ctz 64 F=c:=⟨_,rfl⟩
     have Ju:=ah (fun (W:World) (hb:Below w.heap.size w W)=>hct▸Qp F hF1 (by omega) W (jC.out W hb))
     rw [hct] at hfit;rw [sF] at hp2;by_cases hlt:ct<d
     ·have hr:R=none:=by rw [hp2,ab6 (fun h=>by have:=hfit.1 h;omega)];rfl
      have HR:=ah hr;have hlt':(ct:Int)<d:=by omega
      clear hp2 hr hfit sF hct hF hF1;go_enter Tryz.func122,Tryz.ntmps122;go_wp2_with fail
      refine bQ.out.mono ?_;rintro e w' ⟨rfl,rfl⟩;go_wp2_with fail;refine lQ.out.mono ?_
      rintro e w' ⟨rfl,rfl⟩;go_wp2_with fail;refine lS.out.mono ?_;rintro e w1 ⟨rfl,hb1⟩
      have HB1:=ah hb1;clear hb1;go_wp2_with fail;refine (mQ.out _).mono ?_
      rintro e w' ⟨rfl,rfl⟩;go_wp2_with fail;refine (HEX.out w1).mono ?_
      rintro e w2 ⟨ev,rfl,hev,hb2⟩;have HB2:=ah (HB1.out.trans (hb2.mono HB1.out.size))
      clear hb2;obtain rfl:ev=e0:=hev e0 rfl;clear hev;go_wp2_with fail
      refine (Ju.out w2 HB2.out).mono ?_;rintro e w' ⟨rfl,rfl⟩;go_wp2
      go_ret2
      exact iU.none_ HR.out HB2.out
     have hr:R=some (9223372036854775808+F / 2 ^ d):=by rw [hp2,ab7 (hfit.2 (by omega))];rfl
     have HR:=ah hr;have hlt': ¬(ct:Int)<d:=by omega
     have akm:(d:Int)<=ct:=by omega
     have hnd:decide (ct<d)=false:=abX hlt;have hq:F / 2 ^ d<=F:=aom _ _;have HQ:=ah hq
     clear hp2 hr hfit sF hct hF hF1 hq;go_enter Tryz.func122,Tryz.ntmps122
     go_wp2_with fail;refine bQ.out.mono ?_;rintro e w' ⟨rfl,rfl⟩;go_wp2_with fail
     refine lQ.out.mono ?_;rintro e w' ⟨rfl,rfl⟩;go_wp2_with fail;refine lS.out.mono ?_
     rintro e w1 ⟨rfl,hb1⟩;have HB1:=ah hb1;clear hb1;go_wp2_with fail
     refine (mQ.out _).mono ?_;rintro e w' ⟨rfl,rfl⟩;go_wp2_with fail
     refine (HEX.out w1).mono ?_;rintro e w2 ⟨ev,rfl,hev,hb2⟩
     have HB2:=ah (HB1.out.trans (hb2.mono HB1.out.size));clear hb2
     obtain rfl:ev=e0:=hev e0 rfl;clear hev;go_wp2_with fail
     refine (Ju.out w2 HB2.out).mono ?_;rintro e w' ⟨rfl,rfl⟩;go_wp2
     go_ret2
     refine iU.some_ (v:=bits BinOp.or IntKind.u64 9223372036854775808 ((F:Int) / 2 ^ d)) (n:=9223372036854775808+F / 2 ^ d) HR.out ?_ HB2.out
     rw [show (F:Int) / 2 ^ d=((F / 2 ^ d:Nat):Int) by simp]
     have hq:=HQ.out;exact Yg _ (by omega)
theorem akn (s:ByteArray) (w:World) (hs:s.size<=1073741824) (hL:Laid w) (fB:s.data.toList≠Num.tZ) (hh:s.data.toList.head?≠some 45):
  Calls Tryz.prog 122 #[.string s] w (iU (Num.parse s.data.toList) w):=by
 have hcp:=Tryz.strings_CutPrefix s ⟨#[45]⟩ w
 have e45:(⟨#[45]⟩:ByteArray).data.toList= [45]:=rfl;rw [e45,L8,Yi,ab6 hh,abX hh] at hcp
 have hp:Num.parse s.data.toList=Num.jW s.data.toList:=by unfold Num.parse;rw [ab6 fB,ab6 hh]
 have hn1:(s.toList == [48,120,110,97,110])=false:=by rw [Lib.toList_data];exact Fj fB
 obtain ⟨t,ht⟩: ∃t,s.data.toList=t:=⟨_,rfl⟩
 have htl:t.length<=1073741824:=by rw [<-ht,<-Lib.size_eq];omega
 obtain ⟨R,hR⟩: ∃R,Num.parse s.data.toList=R:=⟨_,rfl⟩;rw [hR];rw [hR,ht] at hp
 rw [ht] at hcp;obtain ⟨z,hz⟩: ∃z:ByteArray,(⟨t.toArray⟩:ByteArray)=z:=⟨_,rfl⟩
 have hzl:z.data.toList=t:=by rw [<-hz]
 have hzs:z.size=t.length:=by rw [<-hz,bf]
 rw [hz] at hcp;have Jq:=hcp.mono fun e w' (h:_/\w'=w)=>(⟨h.1,h.2.symm⟩:_/\w=w')
 have bQ:=ah Jq;clear hcp Jq e45 fB hh ht hR hz;by_cases dK:t=Num.xu
 ·have t1:(z.toList == [48,120,105,110,102])=true:=by rw [Lib.toList_data,hzl,dK];rfl
  have hv:Num.jW t=some 9218868437227405312:=by unfold Num.jW;rw [ab7 dK]
  rw [hv] at hp;have HR:=ah hp
  have hor:bits BinOp.or IntKind.u64 0 9218868437227405312=9218868437227405312:=by decide
  clear hp hv dK hzl hzs htl;go_enter Tryz.func122,Tryz.ntmps122;go_wp2_with fail
  refine bQ.out.mono ?_;rintro e w' ⟨rfl,rfl⟩;go_wp2
  go_ret2
  exact iU.some_ HR.out (by rfl) (Below.refl _ _)
 have t1:(z.toList == [48,120,105,110,102])=false:=by rw [Lib.toList_data,hzl];exact Fj dK
 by_cases hzero:t=Num.ZERO
 ·have t2:(z.toList == [48,120,48])=true:=by rw [Lib.toList_data,hzl,hzero];rfl
  have hv:Num.jW t=some 0:=by unfold Num.jW;rw [ab6 dK,ab7 hzero]
  rw [hv] at hp;have HR:=ah hp;clear hp hv dK hzero hzl hzs htl
  go_enter Tryz.func122,Tryz.ntmps122;go_wp2_with fail;refine bQ.out.mono ?_
  rintro e w' ⟨rfl,rfl⟩;go_wp2
  go_ret2
  exact iU.some_ HR.out (by rfl) (Below.refl _ _)
 have t2:(z.toList == [48,120,48])=false:=by rw [Lib.toList_data,hzl];exact Fj hzero
 have hv:Num.jW t=match Num.pair t with | none=>none | some (f,e)=>if Num.fits f e then some (Num.bitsOf f e) else none:=by unfold Num.jW;rw [ab6 dK,ab6 hzero];rfl
 rw [hv] at hp;clear hv dK hzero
 have hcp2:=(Tryz.strings_CutPrefix z ⟨#[48,120,49]⟩ w).mono fun e w' (h:_/\w'=w)=>(⟨h.1,h.2.symm⟩:_/\w=w')
 have e01:(⟨#[48,120,49]⟩:ByteArray).data.toList= [48,120,49]:=rfl;rw [hzl,e01] at hcp2
 cases hpre:Lib.hasPrefix t [48,120,49] with
 | false=>
  have vX:Num.pair t=none:=by unfold Num.pair;rw [hpre];rfl
  have htp:Lib.trimPrefix t [48,120,49]=t:=by unfold Lib.trimPrefix;rw [hpre];rfl
  rw [vX] at hp;rw [hpre,htp] at hcp2;have HR:=ah hp;have lQ:=ah hcp2
  obtain ⟨z3,hz3⟩: ∃z:ByteArray,(⟨t.toArray⟩:ByteArray)=z:=⟨_,rfl⟩;rw [hz3] at lQ
  have hix:=MH z3 ⟨#[112,109]⟩ w (by rw [<-hz3,bf];omega) (by decide) (by decide) (fun j b hj=>MI j b hj)
  obtain ⟨ix,Jr⟩: ∃i,Lib.indexAny z3.data.toList (⟨#[112,109]⟩:ByteArray).data.toList=i:=⟨_,rfl⟩
  rw [Jr] at hix;have lS:=ah hix;clear hp vX htp hpre hcp2 hix Jr hz3 hzl hzs htl e01
  go_enter Tryz.func122,Tryz.ntmps122;go_wp2_with fail;refine bQ.out.mono ?_
  rintro e w' ⟨rfl,rfl⟩;go_wp2_with fail;refine lQ.out.mono ?_;rintro e w' ⟨rfl,rfl⟩
  go_wp2_with fail;refine lS.out.mono ?_;rintro e w1 ⟨rfl,hb1⟩;have HB1:=ah hb1;clear hb1
  go_wp2
  go_ret2
  exact iU.none_ HR.out HB1.out
 | true=>
  obtain ⟨q,hq⟩: ∃q,t.drop 3=q:=⟨_,rfl⟩
  have htp:Lib.trimPrefix t [48,120,49]=q:=by unfold Lib.trimPrefix;rw [hpre,<-hq];rfl
  have DJ:q.length<=1073741824:=by rw [<-hq,acM];omega
  have vX:Num.pair t=match Num.jJ q with | none=>none | some (u,v)=>match Num.kP u,Num.oZ v with | some f,some e=>some (f,e) | _,_=>none:=by unfold Num.pair;rw [ab7 hpre,hq];rfl
  rw [vX] at hp;rw [hpre,htp] at hcp2
  obtain ⟨z3,hz3⟩: ∃z:ByteArray,(⟨q.toArray⟩:ByteArray)=z:=⟨_,rfl⟩;rw [hz3] at hcp2
  have vY:z3.data.toList=q:=by rw [<-hz3]
  have DK:z3.size=q.length:=by rw [<-hz3,bf]
  have lQ:=ah hcp2
  have hix:=MH z3 ⟨#[112,109]⟩ w (by omega) (by decide) (by decide) (fun j b hj=>MI j b hj)
  rw [vY] at hix;have Js:(⟨#[112,109]⟩:ByteArray).data.toList= [112,109]:=rfl
  rw [Js] at hix;clear htp vX hpre hcp2 hzl hzs htl hq hz3 e01 Js;cases hcut:Num.jJ q with
  | none=>
   rw [hcut] at hp;rw [Qu q hcut] at hix;have lS:=ah hix;have HR:=ah hp
   clear hp hcut hix vY DK DJ;go_enter Tryz.func122,Tryz.ntmps122;go_wp2_with fail
   refine bQ.out.mono ?_;rintro e w' ⟨rfl,rfl⟩;go_wp2_with fail;refine lQ.out.mono ?_
   rintro e w' ⟨rfl,rfl⟩;go_wp2_with fail;refine lS.out.mono ?_;rintro e w1 ⟨rfl,hb1⟩
   have HB1:=ah hb1;clear hb1;go_wp2
   go_ret2
   exact iU.none_ HR.out HB1.out
  | some uv=>
   obtain ⟨u,v⟩:=uv;rw [hcut] at hp
   dsimp only at hp
   rw [Qv q u v hcut] at hix;have zH:=Num.LW q u v hcut
   obtain ⟨m,hm⟩: ∃m,u.length=m:=⟨_,rfl⟩;rw [hm] at hix
   have zJ:m+v.length=z3.size:=by rw [DK,zH,dA,hm]
   have BM:(m:Int)<=z3.size:=by omega
   have hmz:m<=z3.size:=by omega
   obtain ⟨zu,hzu⟩: ∃z,z3.extract 0 m=z:=⟨_,rfl⟩
   obtain ⟨zv,hzv⟩: ∃z,z3.extract m z3.size=z:=⟨_,rfl⟩
   have DL:zu.data.toList=u:=by
    rw [<-hzu,Lib.extract_data,vY,zH];simp [<-hm]
   have DN:zv.data.toList=v:=by
    rw [<-hzv,Lib.extract_data,vY,zH,<-hm,ak5];exact acg (by omega)
   have hfr:=fun W=>Yd zu W (by rw [Lib.size_eq,DL];omega)
   have hex:=fun W=>Yf zv W (by rw [Lib.size_eq,DN];omega)
   rw [DL] at hfr;rw [DN] at hex;have hz3b:(z3.size:Int)<=1073741824:=by omega
   have lS:=ah hix;clear hix hcut zH hm DL DN vY DK DJ;cases hfg:Num.kP u with
   | none=>
    rw [hfg] at hp hfr;have HR:Hid (R=none):=hp;have mQ:=ah hfr;have HEX:=ah hex
    clear hp hfg hfr hex zJ;go_enter Tryz.func122,Tryz.ntmps122;go_wp2_with fail
    refine bQ.out.mono ?_;rintro e w' ⟨rfl,rfl⟩;go_wp2_with fail;refine lQ.out.mono ?_
    rintro e w' ⟨rfl,rfl⟩;go_wp2_with fail;refine lS.out.mono ?_;rintro e w1 ⟨rfl,hb1⟩
    have HB1:=ah hb1;clear hb1;go_wp2_with fail;refine (mQ.out _).mono ?_
    rintro e w' ⟨rfl,rfl⟩;go_wp2_with fail;refine (HEX.out w1).mono ?_
    rintro e w2 ⟨ev,rfl,hev,hb2⟩;have HB2:=ah (HB1.out.trans (hb2.mono HB1.out.size))
    clear hb2;clear hev;go_wp2
    go_ret2
    exact iU.none_ HR.out HB2.out
   | some f=>
    cases pK:Num.oZ v with
    | none=>
     rw [hfg,pK] at hp;rw [hfg] at hfr;rw [pK] at hex;have HR:Hid (R=none):=hp
     have mQ:=ah hfr;have HEX:=ah hex;clear hp hfg pK hfr hex zJ
     go_enter Tryz.func122,Tryz.ntmps122;go_wp2_with fail;refine bQ.out.mono ?_
     rintro e w' ⟨rfl,rfl⟩;go_wp2_with fail;refine lQ.out.mono ?_;rintro e w' ⟨rfl,rfl⟩
     go_wp2_with fail;refine lS.out.mono ?_;rintro e w1 ⟨rfl,hb1⟩;have HB1:=ah hb1
     clear hb1;go_wp2_with fail;refine (mQ.out _).mono ?_;rintro e w' ⟨rfl,rfl⟩
     go_wp2_with fail;refine (HEX.out w1).mono ?_;rintro e w2 ⟨ev,rfl,hev,hb2⟩
     have HB2:=ah (HB1.out.trans (hb2.mono HB1.out.size));clear hb2;clear hev;go_wp2
     go_ret2
     exact iU.none_ HR.out HB2.out
    | some e0=>
     obtain ⟨-,Jt⟩:=Num.PX hfg;obtain ⟨-,he1,he2⟩:=Num.P8 pK;rw [hfg,pK] at hp
     rw [hfg] at hfr;rw [pK] at hex;have mQ:=ah hfr;have HEX:=ah hex
     have hp2:R=(if Num.fits f e0 then some (Num.bitsOf f e0) else none):=hp
     clear hfg pK hfr hex zJ hp
     have jC:=ah (fun (W:World) (hb:Below w.heap.size w W)=>hL.below hb)
     clear hL;by_cases hge: -1022<=e0
     ·rw [ab7 (.inl hge)] at hp2
      obtain ⟨x,hx⟩: ∃x:Nat,e0+1023=x:=⟨(e0+1023).toNat,by omega⟩
      have sF:Num.bitsOf f e0=x*4503599627370496+f:=by unfold Num.bitsOf;rw [ab7 hge,hx];rfl
      rw [sF] at hp2;have hx1:(1:Int)<=x:=by omega
      have hx2:(x:Int)<=2046:=by omega
      have ho1:bits BinOp.or IntKind.u64 0 ((x:Int)*4503599627370496)=(x:Int)*4503599627370496:=by
       rw [show (x:Int)*4503599627370496=((x*4503599627370496:Nat):Int) by omega,or_zero _ (by omega)]
       skip
      have ho2:bits BinOp.or IntKind.u64 ((x:Int)*4503599627370496) (f:Int)=(x:Int)*4503599627370496+f:=by
       have h:=Yh (x) f Jt (by omega)
       rw [show (((x)*4503599627370496:Nat):Int)=(x:Int)*4503599627370496 by omega] at h
       rw [h];omega
      have HR:=ah hp2;clear hp2 sF;go_enter Tryz.func122,Tryz.ntmps122;go_wp2_with fail
      refine bQ.out.mono ?_;rintro e w' ⟨rfl,rfl⟩;go_wp2_with fail;refine lQ.out.mono ?_
      rintro e w' ⟨rfl,rfl⟩;go_wp2_with fail;refine lS.out.mono ?_;rintro e w1 ⟨rfl,hb1⟩
      have HB1:=ah hb1;clear hb1;go_wp2_with fail;refine (mQ.out _).mono ?_
      rintro e w' ⟨rfl,rfl⟩;go_wp2_with fail;refine (HEX.out w1).mono ?_
      rintro e w2 ⟨ev,rfl,hev,hb2⟩;have HB2:=ah (HB1.out.trans (hb2.mono HB1.out.size))
      clear hb2;obtain rfl:ev=e0:=hev e0 rfl;clear hev;go_wp2
      go_ret2
      refine iU.some_ (v:=(x:Int)*4503599627370496+f) (n:=x*4503599627370496+f) HR.out ?_ HB2.out
      omega
     obtain ⟨d,hdd⟩: ∃d:Nat,-1022 - e0=d:=⟨(-1022 - e0).toNat,by omega⟩
     obtain ⟨F,hF⟩: ∃F,f+4503599627370496=F:=⟨_,rfl⟩;have hor:=or_one f Jt;rw [hF] at hor
     have hd1:(1:Int)<=d:=by omega
     have hd2:(d:Int)<=52:=by omega
     have hF2:(F:Int)<=9007199254740992:=by omega
     have hF1:F≠0:=by omega
     have hfit:Num.fits f e0↔d<=Lib.ctz 64 F:=by
      unfold Num.fits;rw [show (-1022 - e0).toNat=d by omega,ali,hF]
      exact ⟨fun h=>h.resolve_left hge,fun h=> .inr h⟩
     have sF:Num.bitsOf f e0=F / 2 ^ d:=by
      unfold Num.bitsOf;rw [ab6 hge,show (-1022 - e0).toNat=d by omega,ali,hF]
     have hge':e0< -1022:=by omega
     have akl:decide (-1022<=e0)=false:=abX hge;obtain ⟨ct,hct⟩: ∃c,Lib.ctz 64 F=c:=⟨_,rfl⟩
     have Ju:=ah (fun (W:World) (hb:Below w.heap.size w W)=>hct▸Qp F hF1 (by omega) W (jC.out W hb))
     rw [hct] at hfit;rw [sF] at hp2;by_cases hlt:ct<d
     ·have hr:R=none:=by rw [hp2,ab6 (fun h=>by have:=hfit.1 h;omega)]
      have HR:=ah hr;have hlt':(ct:Int)<d:=by omega
      clear hp2 hr hfit sF hct hF hF1;go_enter Tryz.func122,Tryz.ntmps122;go_wp2_with fail
      refine bQ.out.mono ?_;rintro e w' ⟨rfl,rfl⟩;go_wp2_with fail;refine lQ.out.mono ?_
      rintro e w' ⟨rfl,rfl⟩;go_wp2_with fail;refine lS.out.mono ?_;rintro e w1 ⟨rfl,hb1⟩
      have HB1:=ah hb1;clear hb1;go_wp2_with fail;refine (mQ.out _).mono ?_
      rintro e w' ⟨rfl,rfl⟩;go_wp2_with fail;refine (HEX.out w1).mono ?_
      rintro e w2 ⟨ev,rfl,hev,hb2⟩;have HB2:=ah (HB1.out.trans (hb2.mono HB1.out.size))
      clear hb2;obtain rfl:ev=e0:=hev e0 rfl;clear hev;go_wp2_with fail
      refine (Ju.out w2 HB2.out).mono ?_;rintro e w' ⟨rfl,rfl⟩;go_wp2
      go_ret2
      exact iU.none_ HR.out HB2.out
     have hr:R=some (F / 2 ^ d):=by rw [hp2,ab7 (hfit.2 (by omega))]
     have HR:=ah hr;have hlt': ¬(ct:Int)<d:=by omega
     have akm:(d:Int)<=ct:=by omega
     have hnd:decide (ct<d)=false:=abX hlt;have hq:F / 2 ^ d<=F:=aom _ _;have HQ:=ah hq
     clear hp2 hr hfit sF hct hF hF1 hq;go_enter Tryz.func122,Tryz.ntmps122
     go_wp2_with fail;refine bQ.out.mono ?_;rintro e w' ⟨rfl,rfl⟩;go_wp2_with fail
     refine lQ.out.mono ?_;rintro e w' ⟨rfl,rfl⟩;go_wp2_with fail;refine lS.out.mono ?_
     rintro e w1 ⟨rfl,hb1⟩;have HB1:=ah hb1;clear hb1;go_wp2_with fail
     refine (mQ.out _).mono ?_;rintro e w' ⟨rfl,rfl⟩;go_wp2_with fail
     refine (HEX.out w1).mono ?_;rintro e w2 ⟨ev,rfl,hev,hb2⟩
     have HB2:=ah (HB1.out.trans (hb2.mono HB1.out.size));clear hb2
     obtain rfl:ev=e0:=hev e0 rfl;clear hev;go_wp2_with fail
     refine (Ju.out w2 HB2.out).mono ?_;rintro e w' ⟨rfl,rfl⟩;go_wp2
     go_ret2
     refine iU.some_ (v:=bits BinOp.or IntKind.u64 0 ((F:Int) / 2 ^ d)) (n:=F / 2 ^ d) HR.out ?_ HB2.out
     rw [show (F:Int) / 2 ^ d=((F / 2 ^ d:Nat):Int) by simp]
     have hq:=HQ.out;exact or_zero _ (by omega)
end Go.Proofs.YtoofbflplhbpbaaGreatDoor
