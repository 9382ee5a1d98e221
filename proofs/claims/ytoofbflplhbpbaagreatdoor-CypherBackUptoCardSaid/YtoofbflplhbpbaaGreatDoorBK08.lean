/- Contracts and plain laws,part 8. -/
import Derived.Test.YtoofbflplhbpbaaGreatDoorBK07
set_option maxHeartbeats 64000000
set_option maxRecDepth 1000000
set_option linter.all false
namespace Go.Proofs.YtoofbflplhbpbaaGreatDoor
open Go.RowKit
theorem sU: ∀l:List UInt8,Num.dB l=none→Lib.indexAny l [112,109]= -1
 | [],_=>rfl
 | c :: r,h=>by
  simp only [Num.dB] at h
  split at h
  ·cases h
  ·rename_i hc
   have hr:Num.dB r=none:=by
    cases h2:Num.dB r with
    | none=>rfl
    | some x=>rw [h2] at h;cases h
   have hcon: [112,109].contains c=false:=by
    have h1:c≠112:=fun e=>hc (.inl e)
    have h2:c≠109:=fun e=>hc (.inr e)
    simp [h1,h2]
   simp only [Lib.indexAny,hcon,sU r hr]
   rfl
theorem sV: ∀(l u v:List UInt8),Num.dB l=some (u,v)→Lib.indexAny l [112,109]=u.length
 | [],u,v,h=>by simp [Num.dB] at h
 | c :: r,u,v,h=>by
  simp only [Num.dB] at h
  split at h
  ·rename_i hc
   simp only [Option.some.injEq,Prod.mk.injEq] at h
   obtain ⟨rfl,rfl⟩:=h
   have hcon: [112,109].contains c=true:=by
    rcases hc with rfl | rfl<;> decide
   simp only [Lib.indexAny,hcon]
   rfl
  ·rename_i hc
   cases h2:Num.dB r with
   | none=>rw [h2] at h;cases h
   | some x=>
    rw [h2] at h
    simp only [Option.map_some,Option.some.injEq,Prod.mk.injEq] at h
    obtain ⟨rfl,rfl⟩:=h
    have hcon: [112,109].contains c=false:=by
     have h1:c≠112:=fun e=>hc (.inl e)
     have h2:c≠109:=fun e=>hc (.inr e)
     simp [h1,h2]
    have ih:=sV r x.1 x.2 h2
    simp only [Lib.indexAny,hcon,ih,List.length_cons]
    have hne:(((x.1.length:Int)) == -1)=false:=by rw [beq_eq_false_iff_ne];omega
    rw [hne]
    simp
def bK (r:Option Nat) (w:World) (e:Ending) (w':World):Prop:=e= .returned (.tuple #[.int .u64 (r.getD 0:Nat), .int .i64 (if r.isSome then 0 else 52)])∧Below w.heap.size w w'
theorem bK.none_ {r:Option Nat} {w w':World} (h:r=none) (hb:Below w.heap.size w w'):bK r w (.returned (.tuple #[.int .u64 0, .int .i64 52])) w':=by
 subst h
 exact ⟨rfl,hb⟩
theorem bK.some_ {r:Option Nat} {w w':World} {v:Int} {n:Nat} (h:r=some n) (hv:v=n) (hb:Below w.heap.size w w'):bK r w (.returned (.tuple #[.int .u64 v, .int .i64 0])) w':=by
 subst h hv
 exact ⟨rfl,hb⟩
theorem yS (a:Nat) (ha:a<9223372036854775808):bits BinOp.or IntKind.u64 9223372036854775808 (a:Int)=((9223372036854775808+a:Nat):Int):=by
 rw [show (9223372036854775808:Int)=((9223372036854775808:Nat):Int) from rfl,bits_or_u64_nat _ _ (by omega) (by omega)]
 congr 1
 have h:=Nat.two_pow_add_eq_or_of_lt (i:=63) (b:=a) ha 1
 rw [show (9223372036854775808:Nat)=2 ^ 63*1 from rfl,←h]
theorem or_zero (a:Nat) (ha:a<18446744073709551616):bits BinOp.or IntKind.u64 0 (a:Int)=(a:Int):=by
 rw [show (0:Int)=((0:Nat):Int) from rfl,bits_or_u64_nat _ _ (by omega) (by omega),Nat.zero_or]
theorem yT (a f:Nat) (hf:f<4503599627370496) (ha:a<4096):bits BinOp.or IntKind.u64 ((a*4503599627370496:Nat):Int) (f:Int)=((a*4503599627370496+f:Nat):Int):=by
 rw [bits_or_u64_nat _ _ (by omega) (by omega)]
 congr 1
 have h:=Nat.two_pow_add_eq_or_of_lt (i:=52) (b:=f) hf a
 rw [Nat.mul_comm,show (4503599627370496:Nat)=2 ^ 52 from rfl,←h]
theorem yU (l:List UInt8):Lib.hasPrefix l [45]=decide (l.head?=some 45):=by
 unfold Lib.hasPrefix
 cases l with
 | nil=>simp
 | cons c t=>
  simp only [List.isPrefixOf,Bool.and_true,List.head?_cons,Option.some.injEq]
  by_cases h:c=45
  ·subst h;decide
  ·rw [decide_eq_false h]
   simpa using fun e=>h e.symm
theorem pK (j:Nat) (b:UInt8) (hj:((⟨#[112,109]⟩:ByteArray).data.toList)[j]?=some b):b.toNat<128:=by
 have:b∈([112,109]:List UInt8):=List.mem_of_getElem? hj
 rcases List.mem_cons.1 this with rfl | h
 ·decide
 ·rw [List.mem_singleton.1 h];decide
theorem lT {l:List UInt8} {m:List UInt8} (h:l≠m):(l == m)=false:=by
 cases hq:l == m with
 | false=>rfl
 | true=>exact absurd (eq_of_beq hq) h
theorem parseFloat1 (s:ByteArray) (w:World) (hs:s.size≤1073741824) (hL:Laid w) (hnan:s.data.toList≠Num.jd) (hh:s.data.toList.head?=some 45):
  Calls Tryz.prog 122 #[.string s] w (bK (Num.parse s.data.toList) w):=by
 have hcp:=Tryz.strings_CutPrefix s ⟨#[45]⟩ w
 have e45:(⟨#[45]⟩:ByteArray).data.toList= [45]:=rfl
 rw [e45,oZ,yU,if_pos hh,decide_eq_true hh] at hcp
 have hp:Num.parse s.data.toList=(Num.dK (s.data.toList.drop 1)).map (9223372036854775808+ ·):=by unfold Num.parse;rw [if_neg hnan,if_pos hh]
 have hn1:(s.toList == [48,120,110,97,110])=false:=by rw [Lib.toList_data];exact lT hnan
 obtain ⟨t,ht⟩: ∃t,s.data.toList.drop 1=t:=⟨_,rfl⟩
 have htl:t.length≤1073741824:=by rw [←ht,List.length_drop,←Lib.size_eq];omega
 obtain ⟨R,hR⟩: ∃R,Num.parse s.data.toList=R:=⟨_,rfl⟩
 rw [hR]
 rw [hR,ht] at hp
 rw [ht] at hcp
 obtain ⟨z,hz⟩: ∃z:ByteArray,(⟨t.toArray⟩:ByteArray)=z:=⟨_,rfl⟩
 have hzl:z.data.toList=t:=by rw [←hz]
 have hzs:z.size=t.length:=by rw [←hz,aJ]
 rw [hz] at hcp
 have hcp':=hcp.mono fun e w' (h:_∧w'=w)=>(⟨h.1,h.2.symm⟩:_∧w=w')
 have HCP:=hq7 hcp'
 clear hcp hcp' e45 hnan hh ht hR hz
 by_cases hinf:t=Num.jS
 ·have t1:(z.toList == [48,120,105,110,102])=true:=by rw [Lib.toList_data,hzl,hinf];rfl
  have hv:Num.dK t=some 9218868437227405312:=by unfold Num.dK;rw [if_pos hinf]
  rw [hv] at hp
  have HR:=hq7 hp
  have hor:bits BinOp.or IntKind.u64 9223372036854775808 9218868437227405312=18442240474082181120:=by decide
  clear hp hv hinf hzl hzs htl
  go_enter Tryz.func122,Tryz.ntmps122
  go_wp2_with fail
  refine HCP.out.mono ?_
  rintro e w' ⟨rfl,rfl⟩
  go_wp2
  go_ret2
  exact bK.some_ HR.out (by rfl) (Below.refl _ _)
 ·have t1:(z.toList == [48,120,105,110,102])=false:=by rw [Lib.toList_data,hzl];exact lT hinf
  by_cases hzero:t=Num.ZERO
  ·have t2:(z.toList == [48,120,48])=true:=by rw [Lib.toList_data,hzl,hzero];rfl
   have hv:Num.dK t=some 0:=by unfold Num.dK;rw [if_neg hinf,if_pos hzero]
   rw [hv] at hp
   have HR:=hq7 hp
   clear hp hv hinf hzero hzl hzs htl
   go_enter Tryz.func122,Tryz.ntmps122
   go_wp2_with fail
   refine HCP.out.mono ?_
   rintro e w' ⟨rfl,rfl⟩
   go_wp2
   go_ret2
   exact bK.some_ HR.out (by rfl) (Below.refl _ _)
  ·have t2:(z.toList == [48,120,48])=false:=by rw [Lib.toList_data,hzl];exact lT hzero
   have hv:Num.dK t=match Num.pair t with | none=>none | some (f,e)=>if Num.fits f e then some (Num.bitsOf f e) else none:=by unfold Num.dK;rw [if_neg hinf,if_neg hzero];rfl
   rw [hv] at hp
   clear hv hinf hzero
   have hcp2:=(Tryz.strings_CutPrefix z ⟨#[48,120,49]⟩ w).mono fun e w' (h:_∧w'=w)=>(⟨h.1,h.2.symm⟩:_∧w=w')
   have e01:(⟨#[48,120,49]⟩:ByteArray).data.toList= [48,120,49]:=rfl
   rw [hzl,e01] at hcp2
   cases hpre:Lib.hasPrefix t [48,120,49] with
   | false=>
    have hpair:Num.pair t=none:=by unfold Num.pair;rw [hpre];rfl
    have htp:Lib.trimPrefix t [48,120,49]=t:=by unfold Lib.trimPrefix;rw [hpre];rfl
    rw [hpair] at hp
    rw [hpre,htp] at hcp2
    have HR:=hq7 hp
    have HCP2:=hq7 hcp2
    obtain ⟨z3,hz3⟩: ∃z:ByteArray,(⟨t.toArray⟩:ByteArray)=z:=⟨_,rfl⟩
    rw [hz3] at HCP2
    have hix:=pJ z3 ⟨#[112,109]⟩ w (by rw [←hz3,aJ];omega) (by decide) (by decide) (fun j b hj=>pK j b hj)
    obtain ⟨ix,hixx⟩: ∃i,Lib.indexAny z3.data.toList (⟨#[112,109]⟩:ByteArray).data.toList=i:=⟨_,rfl⟩
    rw [hixx] at hix
    have HIX:=hq7 hix
    clear hp hpair htp hpre hcp2 hix hixx hz3 hzl hzs htl e01
    go_enter Tryz.func122,Tryz.ntmps122
    go_wp2_with fail
    refine HCP.out.mono ?_
    rintro e w' ⟨rfl,rfl⟩
    go_wp2_with fail
    refine HCP2.out.mono ?_
    rintro e w' ⟨rfl,rfl⟩
    go_wp2_with fail
    refine HIX.out.mono ?_
    rintro e w1 ⟨rfl,hb1⟩
    have HB1:=hq7 hb1
    clear hb1
    go_wp2
    go_ret2
    exact bK.none_ HR.out HB1.out
   | true=>
    obtain ⟨q,hq⟩: ∃q,t.drop 3=q:=⟨_,rfl⟩
    have htp:Lib.trimPrefix t [48,120,49]=q:=by unfold Lib.trimPrefix;rw [hpre,←hq];rfl
    have hql:q.length≤1073741824:=by rw [←hq,List.length_drop];omega
    have hpair:Num.pair t=match Num.dB q with | none=>none | some (u,v)=>match Num.dO u,Num.fJ v with | some f,some e=>some (f,e) | _,_=>none:=by unfold Num.pair;rw [if_pos hpre,hq];rfl
    rw [hpair] at hp
    rw [hpre,htp] at hcp2
    obtain ⟨z3,hz3⟩: ∃z:ByteArray,(⟨q.toArray⟩:ByteArray)=z:=⟨_,rfl⟩
    rw [hz3] at hcp2
    have hz3l:z3.data.toList=q:=by rw [←hz3]
    have hz3s:z3.size=q.length:=by rw [←hz3,aJ]
    have HCP2:=hq7 hcp2
    have hix:=pJ z3 ⟨#[112,109]⟩ w (by omega) (by decide) (by decide) (fun j b hj=>pK j b hj)
    rw [hz3l] at hix
    have epm:(⟨#[112,109]⟩:ByteArray).data.toList= [112,109]:=rfl
    rw [epm] at hix
    clear htp hpair hpre hcp2 hzl hzs htl hq hz3 e01 epm
    cases hcut:Num.dB q with
    | none=>
     rw [hcut] at hp
     rw [sU q hcut] at hix
     have HIX:=hq7 hix
     have HR:=hq7 hp
     clear hp hcut hix hz3l hz3s hql
     go_enter Tryz.func122,Tryz.ntmps122
     go_wp2_with fail
     refine HCP.out.mono ?_
     rintro e w' ⟨rfl,rfl⟩
     go_wp2_with fail
     refine HCP2.out.mono ?_
     rintro e w' ⟨rfl,rfl⟩
     go_wp2_with fail
     refine HIX.out.mono ?_
     rintro e w1 ⟨rfl,hb1⟩
     have HB1:=hq7 hb1
     clear hb1
     go_wp2
     go_ret2
     exact bK.none_ HR.out HB1.out
    | some uv=>
     obtain ⟨u,v⟩:=uv
     rw [hcut] at hp
     dsimp only at hp
     rw [sV q u v hcut] at hix
     have hquv:=Num.oQ q u v hcut
     obtain ⟨m,hm⟩: ∃m,u.length=m:=⟨_,rfl⟩
     rw [hm] at hix
     have hmq:m+v.length=z3.size:=by rw [hz3s,hquv,List.length_append,hm]
     have hmi:(m:Int)≤z3.size:=by omega
     have hmz:m≤z3.size:=by omega
     obtain ⟨zu,hzu⟩: ∃z,z3.extract 0 m=z:=⟨_,rfl⟩
     obtain ⟨zv,hzv⟩: ∃z,z3.extract m z3.size=z:=⟨_,rfl⟩
     have hzul:zu.data.toList=u:=by
      rw [←hzu,Lib.extract_data,hz3l,hquv]
      simp [←hm]
     have hzvl:zv.data.toList=v:=by
      rw [←hzv,Lib.extract_data,hz3l,hquv,←hm,List.drop_left]
      exact List.take_of_length_le (by omega)
     have hfr:=fun W=>yP zu W (by rw [Lib.size_eq,hzul];omega)
     have hex:=fun W=>yR zv W (by rw [Lib.size_eq,hzvl];omega)
     rw [hzul] at hfr
     rw [hzvl] at hex
     have hz3b:(z3.size:Int)≤1073741824:=by omega
     have HIX:=hq7 hix
     clear hix hcut hquv hm hzul hzvl hz3l hz3s hql
     cases hfg:Num.dO u with
     | none=>
      rw [hfg] at hp hfr
      have HR:Hid (R=none):=hp
      have HFR:=hq7 hfr
      have HEX:=hq7 hex
      clear hp hfg hfr hex hmq
      go_enter Tryz.func122,Tryz.ntmps122
      go_wp2_with fail
      refine HCP.out.mono ?_
      rintro e w' ⟨rfl,rfl⟩
      go_wp2_with fail
      refine HCP2.out.mono ?_
      rintro e w' ⟨rfl,rfl⟩
      go_wp2_with fail
      refine HIX.out.mono ?_
      rintro e w1 ⟨rfl,hb1⟩
      have HB1:=hq7 hb1
      clear hb1
      go_wp2_with fail
      refine (HFR.out _).mono ?_
      rintro e w' ⟨rfl,rfl⟩
      go_wp2_with fail
      refine (HEX.out w1).mono ?_
      rintro e w2 ⟨ev,rfl,hev,hb2⟩
      have HB2:=hq7 (HB1.out.trans (hb2.mono HB1.out.size))
      clear hb2
      clear hev
      go_wp2
      go_ret2
      exact bK.none_ HR.out HB2.out
     | some f=>
      cases heg:Num.fJ v with
      | none=>
       rw [hfg,heg] at hp
       rw [hfg] at hfr
       rw [heg] at hex
       have HR:Hid (R=none):=hp
       have HFR:=hq7 hfr
       have HEX:=hq7 hex
       clear hp hfg heg hfr hex hmq
       go_enter Tryz.func122,Tryz.ntmps122
       go_wp2_with fail
       refine HCP.out.mono ?_
       rintro e w' ⟨rfl,rfl⟩
       go_wp2_with fail
       refine HCP2.out.mono ?_
       rintro e w' ⟨rfl,rfl⟩
       go_wp2_with fail
       refine HIX.out.mono ?_
       rintro e w1 ⟨rfl,hb1⟩
       have HB1:=hq7 hb1
       clear hb1
       go_wp2_with fail
       refine (HFR.out _).mono ?_
       rintro e w' ⟨rfl,rfl⟩
       go_wp2_with fail
       refine (HEX.out w1).mono ?_
       rintro e w2 ⟨ev,rfl,hev,hb2⟩
       have HB2:=hq7 (HB1.out.trans (hb2.mono HB1.out.size))
       clear hb2
       clear hev
       go_wp2
       go_ret2
       exact bK.none_ HR.out HB2.out
      | some e0=>
       obtain ⟨-,hf52⟩:=Num.rF hfg
       obtain ⟨-,he1,he2⟩:=Num.rO heg
       rw [hfg,heg] at hp
       rw [hfg] at hfr
       rw [heg] at hex
       have HFR:=hq7 hfr
       have HEX:=hq7 hex
       have hp2:R=(if Num.fits f e0 then some (Num.bitsOf f e0) else none).map (9223372036854775808+ ·):=hp
       clear hfg heg hfr hex hmq hp
       have HLD:=hq7 (fun (W:World) (hb:Below w.heap.size w W)=>hL.below hb)
       clear hL
       by_cases hge: -1022≤e0
       ·rw [if_pos (.inl hge)] at hp2
        obtain ⟨x,hx⟩: ∃x:Nat,e0+1023=x:=⟨(e0+1023).toNat,by omega⟩
        have hbo:Num.bitsOf f e0=x*4503599627370496+f:=by unfold Num.bitsOf;rw [if_pos hge,hx];rfl
        rw [hbo] at hp2
        have hx1:(1:Int)≤x:=by omega
        have hx2:(x:Int)≤2046:=by omega
        have ho1:bits BinOp.or IntKind.u64 9223372036854775808 ((x:Int)*4503599627370496)=(2048+(x:Int))*4503599627370496:=by
         rw [show (x:Int)*4503599627370496=((x*4503599627370496:Nat):Int) by omega,yS _ (by omega)]
         omega
        have ho2:bits BinOp.or IntKind.u64 ((2048+(x:Int))*4503599627370496) (f:Int)=(2048+(x:Int))*4503599627370496+f:=by
         have h:=yT (2048+x) f hf52 (by omega)
         rw [show (((2048+x)*4503599627370496:Nat):Int)=(2048+(x:Int))*4503599627370496 by omega] at h
         rw [h]
         omega
        have HR:=hq7 hp2
        clear hp2 hbo
        go_enter Tryz.func122,Tryz.ntmps122
        go_wp2_with fail
        refine HCP.out.mono ?_
        rintro e w' ⟨rfl,rfl⟩
        go_wp2_with fail
        refine HCP2.out.mono ?_
        rintro e w' ⟨rfl,rfl⟩
        go_wp2_with fail
        refine HIX.out.mono ?_
        rintro e w1 ⟨rfl,hb1⟩
        have HB1:=hq7 hb1
        clear hb1
        go_wp2_with fail
        refine (HFR.out _).mono ?_
        rintro e w' ⟨rfl,rfl⟩
        go_wp2_with fail
        refine (HEX.out w1).mono ?_
        rintro e w2 ⟨ev,rfl,hev,hb2⟩
        have HB2:=hq7 (HB1.out.trans (hb2.mono HB1.out.size))
        clear hb2
        obtain rfl:ev=e0:=hev e0 rfl
        clear hev
        go_wp2
        go_ret2
        refine bK.some_ (v:=(2048+(x:Int))*4503599627370496+f) (n:=9223372036854775808+(x*4503599627370496+f)) HR.out ?_ HB2.out
        omega
       ·obtain ⟨d,hdd⟩: ∃d:Nat,-1022 - e0=d:=⟨(-1022 - e0).toNat,by omega⟩
        obtain ⟨F,hF⟩: ∃F,f+4503599627370496=F:=⟨_,rfl⟩
        have hor:=or_one f hf52
        rw [hF] at hor
        have hd1:(1:Int)≤d:=by omega
        have hd2:(d:Int)≤52:=by omega
        have hF2:(F:Int)≤9007199254740992:=by omega
        have hF1:F≠0:=by omega
        have hfit:Num.fits f e0↔d≤Lib.ctz 64 F:=by
         unfold Num.fits
         rw [show (-1022 - e0).toNat=d by omega,Nat.add_comm,hF]
         exact ⟨fun h=>h.resolve_left hge,fun h=> .inr h⟩
        have hbo:Num.bitsOf f e0=F / 2 ^ d:=by
         unfold Num.bitsOf
         rw [if_neg hge,show (-1022 - e0).toNat=d by omega,Nat.add_comm,hF]
        have hge':e0< -1022:=by omega
        have hged:decide (-1022≤e0)=false:=decide_eq_false hge
        obtain ⟨ct,hct⟩: ∃c,Lib.ctz 64 F=c:=⟨_,rfl⟩
        have HTZ:=hq7 (fun (W:World) (hb:Below w.heap.size w W)=>hct▸sN F hF1 (by omega) W (HLD.out W hb))
        rw [hct] at hfit
        rw [hbo] at hp2
        by_cases hlt:ct<d
        ·have hr:R=none:=by rw [hp2,if_neg (fun h=>by have:=hfit.1 h;omega)];rfl
         have HR:=hq7 hr
         have hlt':(ct:Int)<d:=by omega
         clear hp2 hr hfit hbo hct hF hF1
         go_enter Tryz.func122,Tryz.ntmps122
         go_wp2_with fail
         refine HCP.out.mono ?_
         rintro e w' ⟨rfl,rfl⟩
         go_wp2_with fail
         refine HCP2.out.mono ?_
         rintro e w' ⟨rfl,rfl⟩
         go_wp2_with fail
         refine HIX.out.mono ?_
         rintro e w1 ⟨rfl,hb1⟩
         have HB1:=hq7 hb1
         clear hb1
         go_wp2_with fail
         refine (HFR.out _).mono ?_
         rintro e w' ⟨rfl,rfl⟩
         go_wp2_with fail
         refine (HEX.out w1).mono ?_
         rintro e w2 ⟨ev,rfl,hev,hb2⟩
         have HB2:=hq7 (HB1.out.trans (hb2.mono HB1.out.size))
         clear hb2
         obtain rfl:ev=e0:=hev e0 rfl
         clear hev
         go_wp2_with fail
         refine (HTZ.out w2 HB2.out).mono ?_
         rintro e w' ⟨rfl,rfl⟩
         go_wp2
         go_ret2
         exact bK.none_ HR.out HB2.out
        ·have hr:R=some (9223372036854775808+F / 2 ^ d):=by rw [hp2,if_pos (hfit.2 (by omega))];rfl
         have HR:=hq7 hr
         have hlt': ¬(ct:Int)<d:=by omega
         have hge3:(d:Int)≤ct:=by omega
         have hnd:decide (ct<d)=false:=decide_eq_false hlt
         have hq:F / 2 ^ d≤F:=Nat.div_le_self _ _
         have HQ:=hq7 hq
         clear hp2 hr hfit hbo hct hF hF1 hq
         go_enter Tryz.func122,Tryz.ntmps122
         go_wp2_with fail
         refine HCP.out.mono ?_
         rintro e w' ⟨rfl,rfl⟩
         go_wp2_with fail
         refine HCP2.out.mono ?_
         rintro e w' ⟨rfl,rfl⟩
         go_wp2_with fail
         refine HIX.out.mono ?_
         rintro e w1 ⟨rfl,hb1⟩
         have HB1:=hq7 hb1
         clear hb1
         go_wp2_with fail
         refine (HFR.out _).mono ?_
         rintro e w' ⟨rfl,rfl⟩
         go_wp2_with fail
         refine (HEX.out w1).mono ?_
         rintro e w2 ⟨ev,rfl,hev,hb2⟩
         have HB2:=hq7 (HB1.out.trans (hb2.mono HB1.out.size))
         clear hb2
         obtain rfl:ev=e0:=hev e0 rfl
         clear hev
         go_wp2_with fail
         refine (HTZ.out w2 HB2.out).mono ?_
         rintro e w' ⟨rfl,rfl⟩
         go_wp2
         go_ret2
         refine bK.some_ (v:=bits BinOp.or IntKind.u64 9223372036854775808 ((F:Int) / 2 ^ d)) (n:=9223372036854775808+F / 2 ^ d) HR.out ?_ HB2.out
         rw [show (F:Int) / 2 ^ d=((F / 2 ^ d:Nat):Int) by simp]
         have hq:=HQ.out
         exact yS _ (by omega)
theorem parseFloat0 (s:ByteArray) (w:World) (hs:s.size≤1073741824) (hL:Laid w) (hnan:s.data.toList≠Num.jd) (hh:s.data.toList.head?≠some 45):
  Calls Tryz.prog 122 #[.string s] w (bK (Num.parse s.data.toList) w):=by
 have hcp:=Tryz.strings_CutPrefix s ⟨#[45]⟩ w
 have e45:(⟨#[45]⟩:ByteArray).data.toList= [45]:=rfl
 rw [e45,oZ,yU,if_neg hh,decide_eq_false hh] at hcp
 have hp:Num.parse s.data.toList=Num.dK s.data.toList:=by unfold Num.parse;rw [if_neg hnan,if_neg hh]
 have hn1:(s.toList == [48,120,110,97,110])=false:=by rw [Lib.toList_data];exact lT hnan
 obtain ⟨t,ht⟩: ∃t,s.data.toList=t:=⟨_,rfl⟩
 have htl:t.length≤1073741824:=by rw [←ht,←Lib.size_eq];omega
 obtain ⟨R,hR⟩: ∃R,Num.parse s.data.toList=R:=⟨_,rfl⟩
 rw [hR]
 rw [hR,ht] at hp
 rw [ht] at hcp
 obtain ⟨z,hz⟩: ∃z:ByteArray,(⟨t.toArray⟩:ByteArray)=z:=⟨_,rfl⟩
 have hzl:z.data.toList=t:=by rw [←hz]
 have hzs:z.size=t.length:=by rw [←hz,aJ]
 rw [hz] at hcp
 have hcp':=hcp.mono fun e w' (h:_∧w'=w)=>(⟨h.1,h.2.symm⟩:_∧w=w')
 have HCP:=hq7 hcp'
 clear hcp hcp' e45 hnan hh ht hR hz
 by_cases hinf:t=Num.jS
 ·have t1:(z.toList == [48,120,105,110,102])=true:=by rw [Lib.toList_data,hzl,hinf];rfl
  have hv:Num.dK t=some 9218868437227405312:=by unfold Num.dK;rw [if_pos hinf]
  rw [hv] at hp
  have HR:=hq7 hp
  have hor:bits BinOp.or IntKind.u64 0 9218868437227405312=9218868437227405312:=by decide
  clear hp hv hinf hzl hzs htl
  go_enter Tryz.func122,Tryz.ntmps122
  go_wp2_with fail
  refine HCP.out.mono ?_
  rintro e w' ⟨rfl,rfl⟩
  go_wp2
  go_ret2
  exact bK.some_ HR.out (by rfl) (Below.refl _ _)
 ·have t1:(z.toList == [48,120,105,110,102])=false:=by rw [Lib.toList_data,hzl];exact lT hinf
  by_cases hzero:t=Num.ZERO
  ·have t2:(z.toList == [48,120,48])=true:=by rw [Lib.toList_data,hzl,hzero];rfl
   have hv:Num.dK t=some 0:=by unfold Num.dK;rw [if_neg hinf,if_pos hzero]
   rw [hv] at hp
   have HR:=hq7 hp
   clear hp hv hinf hzero hzl hzs htl
   go_enter Tryz.func122,Tryz.ntmps122
   go_wp2_with fail
   refine HCP.out.mono ?_
   rintro e w' ⟨rfl,rfl⟩
   go_wp2
   go_ret2
   exact bK.some_ HR.out (by rfl) (Below.refl _ _)
  ·have t2:(z.toList == [48,120,48])=false:=by rw [Lib.toList_data,hzl];exact lT hzero
   have hv:Num.dK t=match Num.pair t with | none=>none | some (f,e)=>if Num.fits f e then some (Num.bitsOf f e) else none:=by unfold Num.dK;rw [if_neg hinf,if_neg hzero];rfl
   rw [hv] at hp
   clear hv hinf hzero
   have hcp2:=(Tryz.strings_CutPrefix z ⟨#[48,120,49]⟩ w).mono fun e w' (h:_∧w'=w)=>(⟨h.1,h.2.symm⟩:_∧w=w')
   have e01:(⟨#[48,120,49]⟩:ByteArray).data.toList= [48,120,49]:=rfl
   rw [hzl,e01] at hcp2
   cases hpre:Lib.hasPrefix t [48,120,49] with
   | false=>
    have hpair:Num.pair t=none:=by unfold Num.pair;rw [hpre];rfl
    have htp:Lib.trimPrefix t [48,120,49]=t:=by unfold Lib.trimPrefix;rw [hpre];rfl
    rw [hpair] at hp
    rw [hpre,htp] at hcp2
    have HR:=hq7 hp
    have HCP2:=hq7 hcp2
    obtain ⟨z3,hz3⟩: ∃z:ByteArray,(⟨t.toArray⟩:ByteArray)=z:=⟨_,rfl⟩
    rw [hz3] at HCP2
    have hix:=pJ z3 ⟨#[112,109]⟩ w (by rw [←hz3,aJ];omega) (by decide) (by decide) (fun j b hj=>pK j b hj)
    obtain ⟨ix,hixx⟩: ∃i,Lib.indexAny z3.data.toList (⟨#[112,109]⟩:ByteArray).data.toList=i:=⟨_,rfl⟩
    rw [hixx] at hix
    have HIX:=hq7 hix
    clear hp hpair htp hpre hcp2 hix hixx hz3 hzl hzs htl e01
    go_enter Tryz.func122,Tryz.ntmps122
    go_wp2_with fail
    refine HCP.out.mono ?_
    rintro e w' ⟨rfl,rfl⟩
    go_wp2_with fail
    refine HCP2.out.mono ?_
    rintro e w' ⟨rfl,rfl⟩
    go_wp2_with fail
    refine HIX.out.mono ?_
    rintro e w1 ⟨rfl,hb1⟩
    have HB1:=hq7 hb1
    clear hb1
    go_wp2
    go_ret2
    exact bK.none_ HR.out HB1.out
   | true=>
    obtain ⟨q,hq⟩: ∃q,t.drop 3=q:=⟨_,rfl⟩
    have htp:Lib.trimPrefix t [48,120,49]=q:=by unfold Lib.trimPrefix;rw [hpre,←hq];rfl
    have hql:q.length≤1073741824:=by rw [←hq,List.length_drop];omega
    have hpair:Num.pair t=match Num.dB q with | none=>none | some (u,v)=>match Num.dO u,Num.fJ v with | some f,some e=>some (f,e) | _,_=>none:=by unfold Num.pair;rw [if_pos hpre,hq];rfl
    rw [hpair] at hp
    rw [hpre,htp] at hcp2
    obtain ⟨z3,hz3⟩: ∃z:ByteArray,(⟨q.toArray⟩:ByteArray)=z:=⟨_,rfl⟩
    rw [hz3] at hcp2
    have hz3l:z3.data.toList=q:=by rw [←hz3]
    have hz3s:z3.size=q.length:=by rw [←hz3,aJ]
    have HCP2:=hq7 hcp2
    have hix:=pJ z3 ⟨#[112,109]⟩ w (by omega) (by decide) (by decide) (fun j b hj=>pK j b hj)
    rw [hz3l] at hix
    have epm:(⟨#[112,109]⟩:ByteArray).data.toList= [112,109]:=rfl
    rw [epm] at hix
    clear htp hpair hpre hcp2 hzl hzs htl hq hz3 e01 epm
    cases hcut:Num.dB q with
    | none=>
     rw [hcut] at hp
     rw [sU q hcut] at hix
     have HIX:=hq7 hix
     have HR:=hq7 hp
     clear hp hcut hix hz3l hz3s hql
     go_enter Tryz.func122,Tryz.ntmps122
     go_wp2_with fail
     refine HCP.out.mono ?_
     rintro e w' ⟨rfl,rfl⟩
     go_wp2_with fail
     refine HCP2.out.mono ?_
     rintro e w' ⟨rfl,rfl⟩
     go_wp2_with fail
     refine HIX.out.mono ?_
     rintro e w1 ⟨rfl,hb1⟩
     have HB1:=hq7 hb1
     clear hb1
     go_wp2
     go_ret2
     exact bK.none_ HR.out HB1.out
    | some uv=>
     obtain ⟨u,v⟩:=uv
     rw [hcut] at hp
     dsimp only at hp
     rw [sV q u v hcut] at hix
     have hquv:=Num.oQ q u v hcut
     obtain ⟨m,hm⟩: ∃m,u.length=m:=⟨_,rfl⟩
     rw [hm] at hix
     have hmq:m+v.length=z3.size:=by rw [hz3s,hquv,List.length_append,hm]
     have hmi:(m:Int)≤z3.size:=by omega
     have hmz:m≤z3.size:=by omega
     obtain ⟨zu,hzu⟩: ∃z,z3.extract 0 m=z:=⟨_,rfl⟩
     obtain ⟨zv,hzv⟩: ∃z,z3.extract m z3.size=z:=⟨_,rfl⟩
     have hzul:zu.data.toList=u:=by
      rw [←hzu,Lib.extract_data,hz3l,hquv]
      simp [←hm]
     have hzvl:zv.data.toList=v:=by
      rw [←hzv,Lib.extract_data,hz3l,hquv,←hm,List.drop_left]
      exact List.take_of_length_le (by omega)
     have hfr:=fun W=>yP zu W (by rw [Lib.size_eq,hzul];omega)
     have hex:=fun W=>yR zv W (by rw [Lib.size_eq,hzvl];omega)
     rw [hzul] at hfr
     rw [hzvl] at hex
     have hz3b:(z3.size:Int)≤1073741824:=by omega
     have HIX:=hq7 hix
     clear hix hcut hquv hm hzul hzvl hz3l hz3s hql
     cases hfg:Num.dO u with
     | none=>
      rw [hfg] at hp hfr
      have HR:Hid (R=none):=hp
      have HFR:=hq7 hfr
      have HEX:=hq7 hex
      clear hp hfg hfr hex hmq
      go_enter Tryz.func122,Tryz.ntmps122
      go_wp2_with fail
      refine HCP.out.mono ?_
      rintro e w' ⟨rfl,rfl⟩
      go_wp2_with fail
      refine HCP2.out.mono ?_
      rintro e w' ⟨rfl,rfl⟩
      go_wp2_with fail
      refine HIX.out.mono ?_
      rintro e w1 ⟨rfl,hb1⟩
      have HB1:=hq7 hb1
      clear hb1
      go_wp2_with fail
      refine (HFR.out _).mono ?_
      rintro e w' ⟨rfl,rfl⟩
      go_wp2_with fail
      refine (HEX.out w1).mono ?_
      rintro e w2 ⟨ev,rfl,hev,hb2⟩
      have HB2:=hq7 (HB1.out.trans (hb2.mono HB1.out.size))
      clear hb2
      clear hev
      go_wp2
      go_ret2
      exact bK.none_ HR.out HB2.out
     | some f=>
      cases heg:Num.fJ v with
      | none=>
       rw [hfg,heg] at hp
       rw [hfg] at hfr
       rw [heg] at hex
       have HR:Hid (R=none):=hp
       have HFR:=hq7 hfr
       have HEX:=hq7 hex
       clear hp hfg heg hfr hex hmq
       go_enter Tryz.func122,Tryz.ntmps122
       go_wp2_with fail
       refine HCP.out.mono ?_
       rintro e w' ⟨rfl,rfl⟩
       go_wp2_with fail
       refine HCP2.out.mono ?_
       rintro e w' ⟨rfl,rfl⟩
       go_wp2_with fail
       refine HIX.out.mono ?_
       rintro e w1 ⟨rfl,hb1⟩
       have HB1:=hq7 hb1
       clear hb1
       go_wp2_with fail
       refine (HFR.out _).mono ?_
       rintro e w' ⟨rfl,rfl⟩
       go_wp2_with fail
       refine (HEX.out w1).mono ?_
       rintro e w2 ⟨ev,rfl,hev,hb2⟩
       have HB2:=hq7 (HB1.out.trans (hb2.mono HB1.out.size))
       clear hb2
       clear hev
       go_wp2
       go_ret2
       exact bK.none_ HR.out HB2.out
      | some e0=>
       obtain ⟨-,hf52⟩:=Num.rF hfg
       obtain ⟨-,he1,he2⟩:=Num.rO heg
       rw [hfg,heg] at hp
       rw [hfg] at hfr
       rw [heg] at hex
       have HFR:=hq7 hfr
       have HEX:=hq7 hex
       have hp2:R=(if Num.fits f e0 then some (Num.bitsOf f e0) else none):=hp
       clear hfg heg hfr hex hmq hp
       have HLD:=hq7 (fun (W:World) (hb:Below w.heap.size w W)=>hL.below hb)
       clear hL
       by_cases hge: -1022≤e0
       ·rw [if_pos (.inl hge)] at hp2
        obtain ⟨x,hx⟩: ∃x:Nat,e0+1023=x:=⟨(e0+1023).toNat,by omega⟩
        have hbo:Num.bitsOf f e0=x*4503599627370496+f:=by unfold Num.bitsOf;rw [if_pos hge,hx];rfl
        rw [hbo] at hp2
        have hx1:(1:Int)≤x:=by omega
        have hx2:(x:Int)≤2046:=by omega
        have ho1:bits BinOp.or IntKind.u64 0 ((x:Int)*4503599627370496)=(x:Int)*4503599627370496:=by
         rw [show (x:Int)*4503599627370496=((x*4503599627370496:Nat):Int) by omega,or_zero _ (by omega)]
         skip
        have ho2:bits BinOp.or IntKind.u64 ((x:Int)*4503599627370496) (f:Int)=(x:Int)*4503599627370496+f:=by
         have h:=yT (x) f hf52 (by omega)
         rw [show (((x)*4503599627370496:Nat):Int)=(x:Int)*4503599627370496 by omega] at h
         rw [h]
         omega
        have HR:=hq7 hp2
        clear hp2 hbo
        go_enter Tryz.func122,Tryz.ntmps122
        go_wp2_with fail
        refine HCP.out.mono ?_
        rintro e w' ⟨rfl,rfl⟩
        go_wp2_with fail
        refine HCP2.out.mono ?_
        rintro e w' ⟨rfl,rfl⟩
        go_wp2_with fail
        refine HIX.out.mono ?_
        rintro e w1 ⟨rfl,hb1⟩
        have HB1:=hq7 hb1
        clear hb1
        go_wp2_with fail
        refine (HFR.out _).mono ?_
        rintro e w' ⟨rfl,rfl⟩
        go_wp2_with fail
        refine (HEX.out w1).mono ?_
        rintro e w2 ⟨ev,rfl,hev,hb2⟩
        have HB2:=hq7 (HB1.out.trans (hb2.mono HB1.out.size))
        clear hb2
        obtain rfl:ev=e0:=hev e0 rfl
        clear hev
        go_wp2
        go_ret2
        refine bK.some_ (v:=(x:Int)*4503599627370496+f) (n:=x*4503599627370496+f) HR.out ?_ HB2.out
        omega
       ·obtain ⟨d,hdd⟩: ∃d:Nat,-1022 - e0=d:=⟨(-1022 - e0).toNat,by omega⟩
        obtain ⟨F,hF⟩: ∃F,f+4503599627370496=F:=⟨_,rfl⟩
        have hor:=or_one f hf52
        rw [hF] at hor
        have hd1:(1:Int)≤d:=by omega
        have hd2:(d:Int)≤52:=by omega
        have hF2:(F:Int)≤9007199254740992:=by omega
        have hF1:F≠0:=by omega
        have hfit:Num.fits f e0↔d≤Lib.ctz 64 F:=by
         unfold Num.fits
         rw [show (-1022 - e0).toNat=d by omega,Nat.add_comm,hF]
         exact ⟨fun h=>h.resolve_left hge,fun h=> .inr h⟩
        have hbo:Num.bitsOf f e0=F / 2 ^ d:=by
         unfold Num.bitsOf
         rw [if_neg hge,show (-1022 - e0).toNat=d by omega,Nat.add_comm,hF]
        have hge':e0< -1022:=by omega
        have hged:decide (-1022≤e0)=false:=decide_eq_false hge
        obtain ⟨ct,hct⟩: ∃c,Lib.ctz 64 F=c:=⟨_,rfl⟩
        have HTZ:=hq7 (fun (W:World) (hb:Below w.heap.size w W)=>hct▸sN F hF1 (by omega) W (HLD.out W hb))
        rw [hct] at hfit
        rw [hbo] at hp2
        by_cases hlt:ct<d
        ·have hr:R=none:=by rw [hp2,if_neg (fun h=>by have:=hfit.1 h;omega)]
         have HR:=hq7 hr
         have hlt':(ct:Int)<d:=by omega
         clear hp2 hr hfit hbo hct hF hF1
         go_enter Tryz.func122,Tryz.ntmps122
         go_wp2_with fail
         refine HCP.out.mono ?_
         rintro e w' ⟨rfl,rfl⟩
         go_wp2_with fail
         refine HCP2.out.mono ?_
         rintro e w' ⟨rfl,rfl⟩
         go_wp2_with fail
         refine HIX.out.mono ?_
         rintro e w1 ⟨rfl,hb1⟩
         have HB1:=hq7 hb1
         clear hb1
         go_wp2_with fail
         refine (HFR.out _).mono ?_
         rintro e w' ⟨rfl,rfl⟩
         go_wp2_with fail
         refine (HEX.out w1).mono ?_
         rintro e w2 ⟨ev,rfl,hev,hb2⟩
         have HB2:=hq7 (HB1.out.trans (hb2.mono HB1.out.size))
         clear hb2
         obtain rfl:ev=e0:=hev e0 rfl
         clear hev
         go_wp2_with fail
         refine (HTZ.out w2 HB2.out).mono ?_
         rintro e w' ⟨rfl,rfl⟩
         go_wp2
         go_ret2
         exact bK.none_ HR.out HB2.out
        ·have hr:R=some (F / 2 ^ d):=by rw [hp2,if_pos (hfit.2 (by omega))]
         have HR:=hq7 hr
         have hlt': ¬(ct:Int)<d:=by omega
         have hge3:(d:Int)≤ct:=by omega
         have hnd:decide (ct<d)=false:=decide_eq_false hlt
         have hq:F / 2 ^ d≤F:=Nat.div_le_self _ _
         have HQ:=hq7 hq
         clear hp2 hr hfit hbo hct hF hF1 hq
         go_enter Tryz.func122,Tryz.ntmps122
         go_wp2_with fail
         refine HCP.out.mono ?_
         rintro e w' ⟨rfl,rfl⟩
         go_wp2_with fail
         refine HCP2.out.mono ?_
         rintro e w' ⟨rfl,rfl⟩
         go_wp2_with fail
         refine HIX.out.mono ?_
         rintro e w1 ⟨rfl,hb1⟩
         have HB1:=hq7 hb1
         clear hb1
         go_wp2_with fail
         refine (HFR.out _).mono ?_
         rintro e w' ⟨rfl,rfl⟩
         go_wp2_with fail
         refine (HEX.out w1).mono ?_
         rintro e w2 ⟨ev,rfl,hev,hb2⟩
         have HB2:=hq7 (HB1.out.trans (hb2.mono HB1.out.size))
         clear hb2
         obtain rfl:ev=e0:=hev e0 rfl
         clear hev
         go_wp2_with fail
         refine (HTZ.out w2 HB2.out).mono ?_
         rintro e w' ⟨rfl,rfl⟩
         go_wp2
         go_ret2
         refine bK.some_ (v:=bits BinOp.or IntKind.u64 0 ((F:Int) / 2 ^ d)) (n:=F / 2 ^ d) HR.out ?_ HB2.out
         rw [show (F:Int) / 2 ^ d=((F / 2 ^ d:Nat):Int) by simp]
         have hq:=HQ.out
         exact or_zero _ (by omega)
end Go.Proofs.YtoofbflplhbpbaaGreatDoor
