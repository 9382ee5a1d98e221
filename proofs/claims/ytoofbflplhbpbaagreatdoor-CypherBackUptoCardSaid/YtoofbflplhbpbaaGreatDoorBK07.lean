/- Contracts and plain laws,part 7. -/
import Derived.Test.YtoofbflplhbpbaaGreatDoorBK06
set_option maxHeartbeats 64000000
set_option maxRecDepth 1000000
set_option linter.all false
namespace Go.Proofs.YtoofbflplhbpbaaGreatDoor
open Go.RowKit
theorem Ig: ∀c:Fin 256,Lib.indexByte [48,49,50,51,52,53,54,55,56,57,97,98,99,100,101,102] (UInt8.ofNat c.val)=match Num.aX (UInt8.ofNat c.val) with | some d=>(d:Int) | none=> -1:=by decide+kernel
theorem Ih (c:UInt8):Lib.indexByte [48,49,50,51,52,53,54,55,56,57,97,98,99,100,101,102] c=match Num.aX c with | some d=>(d:Int) | none=> -1:=by
 have:=Ig ⟨c.toNat,UInt8.toNat_lt c⟩
 simpa using this
theorem Ii (n d:Nat) (hn:n<1152921504606846976) (hd:d<16):bits BinOp.or IntKind.u64 ((n:Int)*16) (d:Int)=((n*16+d:Nat):Int):=by
 rw [show (n:Int)*16=((n*16:Nat):Int) by omega,bits_or_u64_nat _ _ (by omega) (by omega)]
 congr 1
 have h:=Nat.two_pow_add_eq_or_of_lt (i:=4) (b:=d) hd n
 rw [Nat.mul_comm,show (16:Nat)=2 ^ 4 from rfl,←h]
theorem pG (c:UInt8) (h:List UInt8):Num.dO (c :: h)=if c≠46∨h= []∨13<h.length∨h.getLast?=some 48 then none else (Num.hexVal h 0).map (· *16 ^(13 - h.length)):=rfl
def Ij (r:Option Nat) (w:World) (e:Ending) (w':World):Prop:=e= .returned (.tuple #[.int .u64 (r.getD 0:Nat), .bool r.isSome])∧w=w'
theorem Ik {t:List UInt8} {k n:Nat} {c:UInt8} (h:Num.hexVal (t.take k) 0=some n) (hc:t[k]?=some c):Num.hexVal (t.take (k+1)) 0=(Num.aX c).map (n*16+ ·):=by
 obtain ⟨hk,e⟩:=List.getElem?_eq_some_iff.1 hc
 rw [List.take_succ_eq_append_getElem hk,Num.mO,h,e]
 simp only [Option.bind_some,Num.hexVal]
 cases Num.aX c<;> rfl
theorem sS: ∀(t:List UInt8) (a n:Nat),Num.hexVal t a=some n→n<(a+1)*16 ^ t.length
 | [],a,n,h=>by simp [Num.hexVal] at h;subst h;simp
 | c :: r,a,n,h=>by
  simp only [Num.hexVal] at h
  cases hc:Num.aX c with
  | none=>rw [hc] at h;cases h
  | some d=>
   rw [hc] at h
   have h1:=sS r _ n h
   have hd:=Num.kT hc
   have h2:(a*16+d+1)*16 ^ r.length≤((a+1)*16)*16 ^ r.length:=Nat.mul_le_mul_right _ (by omega)
   rw [List.length_cons,Nat.pow_succ,Nat.mul_comm (16 ^ r.length) 16,←Nat.mul_assoc]
   exact Nat.lt_of_lt_of_le h1 h2
theorem yO: ∀(t:List UInt8) (k a:Nat) (c:UInt8),t[k]?=some c→Num.aX c=none→Num.hexVal t a=none
 | [],k,a,c,h,_=>by simp at h
 | x :: r,0,a,c,h,hn=>by
  simp at h
  subst h
  simp only [Num.hexVal]
  rw [hn]
 | x :: r,k+1,a,c,h,hn=>by
  simp only [List.getElem?_cons_succ] at h
  simp only [Num.hexVal]
  cases Num.aX x with
  | none=>rfl
  | some d=>exact yO r k _ c h hn
theorem yP (s:ByteArray) (w:World) (hs:s.size≤1073741824):
  Calls Tryz.prog 172 #[.string s] w (Ij (Num.dO s.data.toList) w):=by
 obtain ⟨l,hl⟩: ∃l,s.data.toList=l:=⟨_,rfl⟩
 rw [hl]
 cases l with
 | nil=>
  have h0:s.size=0:=by rw [Lib.size_eq,hl];rfl
  have hsn:s.toList.isEmpty=true:=by rw [Lib.toList_data,hl];rfl
  have hse:(s.toList == [])=true:=by rw [Lib.toList_data,hl];rfl
  clear hl h0
  go_enter Tryz.func172,Tryz.ntmps172
  go_wp2
  go_ret2
  exact ⟨rfl,rfl⟩
 | cons c t=>
  have hsz:s.size=t.length+1:=by rw [Lib.size_eq,hl];rfl
  have hpos:0<s.size:=by omega
  have hp1:(1:Int)≤s.size:=by omega
  have hp0:(0:Int)<s.size:=by omega
  have hsn:s.toList.isEmpty=false:=by rw [Lib.toList_data,hl];rfl
  have hse:(s.toList == [])=false:=by rw [Lib.toList_data,hl];rfl
  have h0:s[0]'hpos=c:=by
   have h1:=Lib.data_getElem? s 0 hpos
   rw [hl] at h1
   simpa using h1.symm
  obtain ⟨z,hz⟩: ∃z,s.extract 1 s.size=z:=⟨_,rfl⟩
  have hzl:z.data.toList=t:=by
   rw [←hz,Lib.extract_data,hl]
   simp
   exact List.take_of_length_le (by omega)
  have hzs:z.size=t.length:=by rw [Lib.size_eq,hzl]
  have hzb:z.size≤1073741824:=by omega
  have HZL:=hq7 hzl
  have HZS:=hq7 hzs
  clear hl hsz
  by_cases h46:c=46
  ·have t1:(((s[0]'hpos).toNat:Int) !=46)=false:=by rw [h0,h46];rfl
   cases t with
   | nil=>
    have hzn:z.toList.isEmpty=true:=by rw [Lib.toList_data,hzl];rfl
    have hze:(z.toList == [])=true:=by rw [Lib.toList_data,hzl];rfl
    have hr:Num.dO [c]=none:=by unfold Num.dO;simp
    rw [hr]
    clear h0 hzl hzs hr h46
    go_enter Tryz.func172,Tryz.ntmps172
    go_wp2
    go_ret2
    exact ⟨rfl,rfl⟩
   | cons x y=>
    have hzn:z.toList.isEmpty=false:=by rw [Lib.toList_data,hzl];rfl
    have hze:(z.toList == [])=false:=by rw [Lib.toList_data,hzl];rfl
    by_cases h13:13<(x :: y).length
    ·have hr:Num.dO (c :: x :: y)=none:=by
      rw [pG,if_pos (.inr (.inr (.inl h13)))]
     rw [hr]
     have t2:(13:Int)<z.size:=by omega
     clear h0 hzl hzs hr h46 h13
     go_enter Tryz.func172,Tryz.ntmps172
     go_wp2
     go_ret2
     exact ⟨rfl,rfl⟩
    ·obtain ⟨t,ht⟩: ∃t,x :: y=t:=⟨_,rfl⟩
     rw [ht] at hzl hzs h13 HZL HZS⊢
     have htn:t≠ []:=by rw [←ht];simp
     have hzp:0<z.size:=by rw [hzs,←ht];simp
     have hzp1:(1:Int)≤z.size:=by omega
     have t2:(z.size:Int)≤13:=by omega
     have hzm:z.size - 1<z.size:=by omega
     have hlast:t.getLast?=some (z[z.size - 1]'hzm):=by
      have h1:=Lib.data_getElem? z (z.size - 1) hzm
      rw [hzl] at h1
      rw [List.getLast?_eq_getElem?,←hzs,h1]
     have ez:((z.size:Int) - 1).toNat=z.size - 1:=by omega
     by_cases h48:(z[z.size - 1]'hzm)=48
     ·have hr:Num.dO (c :: t)=none:=by
       rw [pG,if_pos (.inr (.inr (.inr (by rw [hlast,h48]))))]
      rw [hr]
      have t3:(((z[z.size - 1]'hzm).toNat:Int) == 48)=true:=by rw [h48];rfl
      have EZ:=hq7 ez
      clear h0 hzl hzs hr h46 h13 hlast h48 ht htn ez
      go_enter Tryz.func172,Tryz.ntmps172
      go_wp2
      go_ret2
      exact ⟨rfl,rfl⟩
     ·have t3:(((z[z.size - 1]'hzm).toNat:Int) == 48)=false:=by
       rw [beq_eq_false_iff_ne]
       intro e
       exact h48 (UInt8.toNat_inj.1 (by show (z[z.size - 1]'hzm).toNat=48;omega))
      have hr:Num.dO (c :: t)=(Num.hexVal t 0).map (· *16 ^(13 - t.length)):=by
       rw [pG,if_neg]
       rintro (h | h | h | h)
       ·exact h h46
       ·exact htn h
       ·exact h13 h
       ·rw [hlast] at h
        exact h48 (Option.some.inj h)
      obtain ⟨R,hR⟩: ∃R,Num.dO (c :: t)=R:=⟨_,rfl⟩
      rw [hR]
      rw [hR] at hr
      have HR:=hq7 hr
      have hzg: ∀(k:Nat) (h:k<z.size),t[k]?=some (z[k]'h):=fun k h=>by rw [←hzl];exact Lib.data_getElem? z k h
      have HZG:=hq7 hzg
      clear h0 hzl hzs hr h46 h13 hlast h48 ht htn ez hR hzg
      go_enter Tryz.func172,Tryz.ntmps172
      go_wp2
      clear t3
      go_loopg [5,34] z.size (fun g a i wr=> ∃(k n:Nat),k+g=z.size∧i= .int .i64 k∧a= .int .u64 n∧Num.hexVal (t.take k) 0=some n∧w=wr)
      case atStart=>exact ⟨0,0,by omega,rfl,rfl,rfl,rfl⟩
      case round=>
       obtain ⟨k,n,hk,rfl,rfl,hv,rfl⟩:=hrel
       have HK:=hq7 hk
       have HV:=hq7 hv
       have hnl:=sS _ _ _ hv
       have htl:(t.take k).length≤k:=List.length_take_le _ _
       clear hk hv
       cases gk with
       | zero=>
        have hkz:k=z.size:=by have:=HK.out;omega
        have hfin:Num.hexVal t 0=some n:=by
         have:=HV.out
         rwa [List.take_of_length_le (by rw [hkz,HZS.out];exact Nat.le_refl _)] at this
        have hr:=HR.out
        rw [hfin] at hr
        have htz:t.length=z.size:=HZS.out.symm
        rw [Option.map_some,htz] at hr
        obtain ⟨m,hm⟩: ∃m,z.size=m:=⟨_,rfl⟩
        have hnm:n<16 ^ m:=by
         have h1:=sS _ _ _ hfin
         rw [htz,hm] at h1
         omega
        have hpw:16 ^ m*16 ^(13 - m)=4503599627370496:=by
         rw [←Nat.pow_add,show m+(13 - m)=13 by omega]
        have hsh:IntKind.u64.wrap ((n:Int)*2 ^(52 - 4*m))=((n*16 ^(13 - m):Nat):Int):=by
         have e1:(2:Nat) ^(52 - 4*m)=16 ^(13 - m):=by rw [show 52 - 4*m=4*(13 - m) by omega,Nat.pow_mul]
         have e2:(n:Int)*2 ^(52 - 4*m)=((n*16 ^(13 - m):Nat):Int):=by rw [←e1];simp
         have h3:n*16 ^(13 - m)<16 ^ m*16 ^(13 - m):=Nat.mul_lt_mul_of_pos_right hnm (Nat.pow_pos (by decide))
         rw [hpw] at h3
         rw [e2,IntKind.wrap_u64]
         omega
        rw [hm] at hr
        have HR2:=hq7 hr
        have hkd:decide (k<z.size)=false:=decide_eq_false (by omega)
        have em:(52 - 4*(z.size:Int)).toNat=52 - 4*m:=by omega
        have e0:(0:Int)≤52 - 4*(z.size:Int):=by omega
        have HM:=hq7 hm
        clear hkz hfin hr htz hm hnm hpw
        go_wp2
        go_ret2
        refine ⟨?_,rfl⟩
        rw [HR2.out]
        have e9:((n*16 ^(13 - m):Nat):Int)=(n:Int)*16 ^(13 - m):=by simp
        show Ending.returned (.tuple #[.int .u64 ((n:Int)*16 ^(13 - m)), .bool true])= .returned (.tuple #[.int .u64 ((n*16 ^(13 - m):Nat):Int), .bool true])
        rw [e9]
       | succ g=>
        have hlt:k<z.size:=by have:=HK.out;omega
        have hlt':(k:Int)<z.size:=by omega
        obtain ⟨x,hx⟩: ∃x,z[k]'hlt=x:=⟨_,rfl⟩
        have hget:=HZG.out k hlt
        rw [hx] at hget
        have hix:=Ih x
        have hci:=Tryz.strings_IndexByte ⟨#[48,49,50,51,52,53,54,55,56,57,97,98,99,100,101,102]⟩ ((z[k]'hlt).toNat:Int) w
        have exx:((((z[k]'hlt).toNat:Int)).toNat.toUInt8)=x:=by rw [hx];simp
        rw [exx] at hci
        cases hv:Num.aX x with
        | none=>
         rw [hv] at hix
         have hci2:Calls Tryz.prog 117 #[.string ⟨#[48,49,50,51,52,53,54,55,56,57,97,98,99,100,101,102]⟩, .int .u8 ((z[k]'hlt).toNat:Int)] w fun e w'=>e= .returned (.int .i64 (-1))∧w=w':=hci.mono fun e w' ⟨h1,h2⟩=>⟨by rw [h1];exact congrArg (fun q=>Ending.returned (Value.int .i64 q)) hix,h2.symm⟩
         have HCI:=hq7 hci2
         have hr:=HR.out
         rw [yO t k 0 x hget hv] at hr
         rw [hr]
         clear hx hget hix hci exx hv hci2 hr hnl htl
         go_wp2_with fail
         refine HCI.out.mono ?_
         rintro e w' ⟨rfl,rfl⟩
         go_wp2
         go_ret2
         exact ⟨rfl,rfl⟩
        | some d=>
         rw [hv] at hix
         have hd:=Num.kT hv
         have hci2:Calls Tryz.prog 117 #[.string ⟨#[48,49,50,51,52,53,54,55,56,57,97,98,99,100,101,102]⟩, .int .u8 ((z[k]'hlt).toNat:Int)] w fun e w'=>e= .returned (.int .i64 d)∧w=w':=hci.mono fun e w' ⟨h1,h2⟩=>⟨by rw [h1];exact congrArg (fun q=>Ending.returned (Value.int .i64 q)) hix,h2.symm⟩
         have HCI:=hq7 hci2
         have hnx:=Ik HV.out hget
         rw [hv,Option.map_some] at hnx
         have HNX:=hq7 hnx
         have hp12:16 ^(t.take k).length≤16 ^ 12:=Nat.pow_le_pow_right (by decide) (by omega)
         have e12:(16:Nat) ^ 12=281474976710656:=by decide
         have hnb:n<281474976710656:=by omega
         have hor:=Ii n d (by omega) hd
         have hdi:(0:Int)≤d:=by omega
         have hdi2:(d:Int)≤15:=by omega
         have hni:(n:Int)≤281474976710656:=by omega
         clear hx hget hix hci exx hv hci2 hnl htl hnx hp12 e12
         go_wp2_with fail
         refine HCI.out.mono ?_
         rintro e w' ⟨rfl,rfl⟩
         go_wp2
         go_roundg g
         case measure=>omega
         case rel=>exact ⟨k+1,_,by have:=HK.out;omega,by go_num,rfl,HNX.out,rfl⟩
  ·have t1:(((s[0]'hpos).toNat:Int) !=46)=true:=by
    rw [h0,bne_iff_ne]
    intro e
    exact h46 (UInt8.toNat_inj.1 (by show c.toNat=46;omega))
   have hr:Num.dO (c :: t)=none:=by rw [pG,if_pos (.inl h46)]
   rw [hr]
   clear h0 hzl hzs hr h46
   go_enter Tryz.func172,Tryz.ntmps172
   go_wp2
   go_ret2
   exact ⟨rfl,rfl⟩
def eP (r:Option Int) (w:World) (e:Ending) (w':World):Prop:= ∃v,e= .returned (.tuple #[.int .i64 v, .bool r.isSome])∧(∀x,r=some x→v=x)∧Below w.heap.size w w'
theorem eP.none_ {r:Option Int} {w w':World} {v:Int} (h:r=none) (hb:Below w.heap.size w w'):eP r w (.returned (.tuple #[.int .i64 v, .bool false])) w':=by
 subst h
 exact ⟨v,rfl,(fun x hx=>by cases hx),hb⟩
theorem eP.some_ {r:Option Int} {w w':World} {v:Int} (h:r=some v) (hb:Below w.heap.size w w'):eP r w (.returned (.tuple #[.int .i64 v, .bool true])) w':=by
 subst h
 exact ⟨v,rfl,fun x hx=>Option.some.inj hx,hb⟩
theorem yQ (c:UInt8) (r:List UInt8):Num.fJ (c :: r)=if r= []∨4<r.length∨(c≠112∧c≠109)∨Num.isInt r=false∨r.head?=some 45∨(c=109∧r= [48]) then none else
  if Num.iw c r≤1023∧ -1074≤Num.iw c r then some (Num.iw c r) else none:=rfl
theorem eu (b:Bool):(some undef=some (Value.bool b))=False:=by simp [undef]
theorem pI (x y:UInt8):((x.toNat:Int) ==(y.toNat:Int))=decide (x=y):=by
 by_cases h:x=y
 ·rw [decide_eq_true h,h];simp
 ·rw [decide_eq_false h,beq_eq_false_iff_ne]
  intro e
  exact h (UInt8.toNat_inj.1 (by omega))
theorem yR (s:ByteArray) (w:World) (hs:s.size≤1073741824):
  Calls Tryz.prog 173 #[.string s] w (eP (Num.fJ s.data.toList) w):=by
 obtain ⟨l,hl⟩: ∃l,s.data.toList=l:=⟨_,rfl⟩
 have hsz:s.size=l.length:=by rw [Lib.size_eq,hl]
 have hsg: ∀(k:Nat) (h:k<s.size),l[k]?=some (s[k]'h):=fun k h=>by rw [←hl];exact Lib.data_getElem? s k h
 obtain ⟨R,hR⟩: ∃R,Num.fJ l=R:=⟨_,rfl⟩
 rw [hl,hR]
 by_cases h2:s.size<2
 ·have hr:R=none:=by
   rw [←hR]
   cases l with
   | nil=>rfl
   | cons c r=>
    have:r= []:=List.eq_nil_of_length_eq_zero (by simp at hsz;omega)
    rw [yQ,if_pos (.inl this)]
  have HR:=hq7 hr
  have t1:(s.size:Int)<2:=by omega
  have t1':decide ((s.size:Int)<2)=true:=decide_eq_true t1
  have hu:=eu
  clear hr hR hsg hsz hl h2
  go_enter Tryz.func173,Tryz.ntmps173
  go_wp2
  go_ret2
  exact eP.none_ HR.out (Below.refl _ _)
 ·obtain ⟨c,d,r',rfl⟩: ∃c d r',l=c :: d :: r':=by
   cases l with
   | nil=>rw [List.length_nil] at hsz;omega
   | cons c r=>
    cases r with
    | nil=>rw [List.length_singleton] at hsz;omega
    | cons d r'=>exact ⟨c,d,r',rfl⟩
  have t1:(2:Int)≤s.size:=by omega
  have hp0:0<s.size:=by omega
  have hp1:1<s.size:=by omega
  have hp0':(0:Int)<s.size:=by omega
  have hp1':(1:Int)<s.size:=by omega
  have hp1'':(1:Int)≤s.size:=by omega
  have e0:s[0]'hp0=c:=by have:=hsg 0 hp0;simpa using this.symm
  have e1:s[1]'hp1=d:=by have:=hsg 1 hp1;simpa using this.symm
  have hu:=eu
  obtain ⟨z,hz⟩: ∃z,s.extract 1 s.size=z:=⟨_,rfl⟩
  have hzl:z.data.toList=d :: r':=by
   rw [←hz,Lib.extract_data,hl]
   simp
   rw [List.take_of_length_le]
   simp at hsz⊢
   omega
  have hzs:z.size=r'.length+1:=by rw [Lib.size_eq,hzl];rfl
  have hrl:(d :: r').length+1=s.size:=by rw [hsz];rfl
  have hrl2:r'.length+2=s.size:=by rw [hsz];rfl
  rw [yQ] at hR
  by_cases h5:5<s.size
  ·rw [if_pos (.inr (.inl (by omega)))] at hR
   have HR:=hq7 hR.symm
   have t2:(5:Int)<s.size:=by omega
   clear hR hsg hsz hl h2 h5 e0 e1 hzl hzs hrl hrl2 hz
   go_enter Tryz.func173,Tryz.ntmps173
   go_wp2
   go_ret2
   exact eP.none_ HR.out (Below.refl _ _)
  ·have t2:(s.size:Int)≤5:=by omega
   by_cases hpm:c≠112∧c≠109
   ·rw [if_pos (.inr (.inr (.inl hpm)))] at hR
    have HR:=hq7 hR.symm
    have t3:(((s[0]'hp0).toNat:Int) !=112)=true:=by rw [e0,bne,show (112:Int)=((112:UInt8).toNat:Int) from rfl,pI,decide_eq_false hpm.1];rfl
    have t4:(((s[0]'hp0).toNat:Int) !=109)=true:=by rw [e0,bne,show (109:Int)=((109:UInt8).toNat:Int) from rfl,pI,decide_eq_false hpm.2];rfl
    clear hR hsg hsz hl h2 h5 e0 e1 hzl hzs hrl hrl2 hz hpm
    go_enter Tryz.func173,Tryz.ntmps173
    go_wp2
    go_ret2
    exact eP.none_ HR.out (Below.refl _ _)
   ·have hcc:c=112∨c=109:=by
     by_cases h:c=112
     ·exact .inl h
     ·exact .inr (Classical.byContradiction fun h'=>hpm ⟨h,h'⟩)
    have hI:=yJ z w (by omega)
    rw [hzl] at hI
    rcases hcc with hcv | hcv
    ·subst hcv
     have t3:(((s[0]'hp0).toNat:Int) !=112)=false:=by rw [e0];rfl
     have t4:(((s[0]'hp0).toNat:Int) !=109)=true:=by rw [e0];rfl
     have t9:(((s[0]'hp0).toNat:Int) == 109)=false:=by rw [e0];rfl
     cases hi:Num.isInt (d :: r') with
     | false=>
      rw [hi] at hI
      rw [if_pos (.inr (.inr (.inr (.inl hi))))] at hR
      have HR:=hq7 hR.symm
      have HI:=hq7 hI
      clear hR hsg hsz hl h2 h5 e0 e1 hzl hzs hrl hrl2 hI hi hpm
      go_enter Tryz.func173,Tryz.ntmps173
      go_wp2_with fail
      refine HI.out.mono ?_
      rintro e w' ⟨rfl,rfl⟩
      go_wp2
      go_ret2
      exact eP.none_ HR.out (Below.refl _ _)
     | true=>
      rw [hi] at hI
      by_cases hd45:d=45
      ·rw [if_pos (.inr (.inr (.inr (.inr (.inl (by rw [hd45];rfl))))))] at hR
       have HR:=hq7 hR.symm
       have HI:=hq7 hI
       have t5:(((s[1]'hp1).toNat:Int) == 45)=true:=by rw [e1,hd45];rfl
       clear hR hsg hsz hl h2 h5 e0 e1 hzl hzs hrl hrl2 hI hi hpm hd45
       go_enter Tryz.func173,Tryz.ntmps173
       go_wp2_with fail
       refine HI.out.mono ?_
       rintro e w' ⟨rfl,rfl⟩
       go_wp2
       go_ret2
       exact eP.none_ HR.out (Below.refl _ _)
      ·have t5:(((s[1]'hp1).toNat:Int) == 45)=false:=by rw [e1,show (45:Int)=((45:UInt8).toNat:Int) from rfl,pI,decide_eq_false hd45]
       have hhd:(d :: r':List UInt8).head?≠some 45:=by simp [hd45]
       have hg:=Num.rJ hi hhd
       have hlen: ¬4<(d :: r':List UInt8).length:=by omega
       rw [if_neg (by
        rintro (h | h | h | h | h | h)
        ·cases h
        ·exact hlen h
        ·exact hpm h
        ·rw [hi] at h;cases h
        ·exact hhd h
        ·exact absurd h.1 (by decide))] at hR
       have t6:(s.toList == [109,48])=false:=by
        rw [Lib.toList_data,hl]
        rfl
       have hk:Num.aH 0 (d :: r')<10000:=by
        have h1:=Num.qZ (d :: r') 0 hg.1
        have h3:10 ^(d :: r':List UInt8).length≤10 ^ 4:=Nat.pow_le_pow_right (by decide) (by omega)
        have e4:(10:Nat) ^ 4=10000:=by decide
        omega
       obtain ⟨k,hkk⟩: ∃k,Num.aH 0 (d :: r')=k:=⟨_,rfl⟩
       have hat:Lib.atoiAll z.data.toList= .ok (k:Int):=by
        rw [hzl,←Lib.parseIntB_64]
        have:=Num.rD hg
        rw [hkk] at this
        rw [show (d :: r':List UInt8)=Num.sg false ++(d :: r') from rfl,this,if_neg (by unfold Num.over;simp;omega)]
        rfl
       rw [hkk] at hk
       have hE:Num.iw 112 (d :: r')=(k:Int):=by rw [Num.rH (by decide),hkk]
       rw [hE] at hR
       have hca:=(Tryz.strconv_Atoi_ok z (by omega) (k:Int) hat w).mono fun e w' ⟨h1,h2⟩=>(⟨h1,below_bytesWorld h2⟩:e=Ending.returned (.tuple #[.int .i64 (k:Int), .nilIface])∧Below w.heap.size w w')
       have HCA:=hq7 hca
       have HR:=hq7 hR.symm
       have HI:=hq7 hI
       have hki:(k:Int)≤9999:=by omega
       have hki0:(0:Int)≤k:=by omega
       clear hR hsg hsz hl h2 h5 e0 e1 hzl hzs hrl hrl2 hI hi hpm hd45 hhd hg hlen hk hkk hat hE hca
       by_cases hbd:(k:Int)≤1023
       ·have hbd2: -1074≤(k:Int):=by omega
        have hr:=HR.out
        rw [if_pos ⟨hbd,hbd2⟩] at hr
        have HR2:=hq7 hr
        clear hr
        go_enter Tryz.func173,Tryz.ntmps173
        go_wp2_with fail
        refine HI.out.mono ?_
        rintro e w' ⟨rfl,rfl⟩
        go_wp2_with fail
        refine HCA.out.mono ?_
        rintro e w1 ⟨rfl,hb1⟩
        have HB1:=hq7 hb1
        clear hb1
        go_wp2
        go_ret2
        exact eP.some_ HR2.out HB1.out
       ·have hr:=HR.out
        rw [if_neg (by omega)] at hr
        have HR2:=hq7 hr
        have hbd2:(1023:Int)<k:=by omega
        skip
        clear hr
        go_enter Tryz.func173,Tryz.ntmps173
        go_wp2_with fail
        refine HI.out.mono ?_
        rintro e w' ⟨rfl,rfl⟩
        go_wp2_with fail
        refine HCA.out.mono ?_
        rintro e w1 ⟨rfl,hb1⟩
        have HB1:=hq7 hb1
        clear hb1
        go_wp2
        go_ret2
        exact eP.none_ HR2.out HB1.out
    ·subst hcv
     have t3:(((s[0]'hp0).toNat:Int) !=112)=true:=by rw [e0];rfl
     have t4:(((s[0]'hp0).toNat:Int) !=109)=false:=by rw [e0];rfl
     have t9:(((s[0]'hp0).toNat:Int) == 109)=true:=by rw [e0];rfl
     cases hi:Num.isInt (d :: r') with
     | false=>
      rw [hi] at hI
      rw [if_pos (.inr (.inr (.inr (.inl hi))))] at hR
      have HR:=hq7 hR.symm
      have HI:=hq7 hI
      clear hR hsg hsz hl h2 h5 e0 e1 hzl hzs hrl hrl2 hI hi hpm
      go_enter Tryz.func173,Tryz.ntmps173
      go_wp2_with fail
      refine HI.out.mono ?_
      rintro e w' ⟨rfl,rfl⟩
      go_wp2
      go_ret2
      exact eP.none_ HR.out (Below.refl _ _)
     | true=>
      rw [hi] at hI
      by_cases hd45:d=45
      ·rw [if_pos (.inr (.inr (.inr (.inr (.inl (by rw [hd45];rfl))))))] at hR
       have HR:=hq7 hR.symm
       have HI:=hq7 hI
       have t5:(((s[1]'hp1).toNat:Int) == 45)=true:=by rw [e1,hd45];rfl
       clear hR hsg hsz hl h2 h5 e0 e1 hzl hzs hrl hrl2 hI hi hpm hd45
       go_enter Tryz.func173,Tryz.ntmps173
       go_wp2_with fail
       refine HI.out.mono ?_
       rintro e w' ⟨rfl,rfl⟩
       go_wp2
       go_ret2
       exact eP.none_ HR.out (Below.refl _ _)
      ·have t5:(((s[1]'hp1).toNat:Int) == 45)=false:=by rw [e1,show (45:Int)=((45:UInt8).toNat:Int) from rfl,pI,decide_eq_false hd45]
       have hhd:(d :: r':List UInt8).head?≠some 45:=by simp [hd45]
       by_cases hm0:(d :: r':List UInt8)= [48]
       ·rw [if_pos (.inr (.inr (.inr (.inr (.inr ⟨rfl,hm0⟩)))))] at hR
        have HR:=hq7 hR.symm
        have HI:=hq7 hI
        have t6:(s.toList == [109,48])=true:=by rw [Lib.toList_data,hl,hm0];rfl
        clear hR hsg hsz hl h2 h5 e0 e1 hzl hzs hrl hrl2 hI hi hpm hd45 hhd hm0
        go_enter Tryz.func173,Tryz.ntmps173
        go_wp2_with fail
        refine HI.out.mono ?_
        rintro e w' ⟨rfl,rfl⟩
        go_wp2
        go_ret2
        exact eP.none_ HR.out (Below.refl _ _)
       ·have hg:=Num.rJ hi hhd
        have hlen: ¬4<(d :: r':List UInt8).length:=by omega
        rw [if_neg (by
         rintro (h | h | h | h | h | h)
         ·cases h
         ·exact hlen h
         ·exact hpm h
         ·rw [hi] at h;cases h
         ·exact hhd h
         ·exact hm0 h.2)] at hR
        have t6:(s.toList == [109,48])=false:=by
         rw [Lib.toList_data,hl]
         cases hq:((109 :: d :: r':List UInt8) == [109,48]) with
         | false=>rfl
         | true=>exact absurd (List.cons.inj (eq_of_beq hq)).2 hm0
        have hk:Num.aH 0 (d :: r')<10000:=by
         have h1:=Num.qZ (d :: r') 0 hg.1
         have h3:10 ^(d :: r':List UInt8).length≤10 ^ 4:=Nat.pow_le_pow_right (by decide) (by omega)
         have e4:(10:Nat) ^ 4=10000:=by decide
         omega
        obtain ⟨k,hkk⟩: ∃k,Num.aH 0 (d :: r')=k:=⟨_,rfl⟩
        have hat:Lib.atoiAll z.data.toList= .ok (k:Int):=by
         rw [hzl,←Lib.parseIntB_64]
         have:=Num.rD hg
         rw [hkk] at this
         rw [show (d :: r':List UInt8)=Num.sg false ++(d :: r') from rfl,this,if_neg (by unfold Num.over;simp;omega)]
         rfl
        rw [hkk] at hk
        have hE:Num.iw 109 (d :: r')= -(k:Int):=by rw [Num.rG,hkk]
        rw [hE] at hR
        have hca:=(Tryz.strconv_Atoi_ok z (by omega) (k:Int) hat w).mono fun e w' ⟨h1,h2⟩=>(⟨h1,below_bytesWorld h2⟩:e=Ending.returned (.tuple #[.int .i64 (k:Int), .nilIface])∧Below w.heap.size w w')
        have HCA:=hq7 hca
        have HR:=hq7 hR.symm
        have HI:=hq7 hI
        have hki:(k:Int)≤9999:=by omega
        have hki0:(0:Int)≤k:=by omega
        clear hR hsg hsz hl h2 h5 e0 e1 hzl hzs hrl hrl2 hI hi hpm hd45 hhd hg hlen hk hkk hat hE hca hm0
        by_cases hbd: -1074≤ -(k:Int)
        ·have hbd2: -(k:Int)≤1023:=by omega
         have hr:=HR.out
         rw [if_pos ⟨hbd2,hbd⟩] at hr
         have HR2:=hq7 hr
         clear hr
         go_enter Tryz.func173,Tryz.ntmps173
         go_wp2_with fail
         refine HI.out.mono ?_
         rintro e w' ⟨rfl,rfl⟩
         go_wp2_with fail
         refine HCA.out.mono ?_
         rintro e w1 ⟨rfl,hb1⟩
         have HB1:=hq7 hb1
         clear hb1
         go_wp2
         go_ret2
         exact eP.some_ HR2.out HB1.out
        ·have hr:=HR.out
         rw [if_neg (by omega)] at hr
         have HR2:=hq7 hr
         have hbd2: -(k:Int)< -1074:=by omega
         have hbd3: -(k:Int)≤1023:=by omega
         have hbd4:(1074:Int)<k:=by omega
         have hbd5:decide ((k:Int)≤1074)=false:=decide_eq_false (by omega)
         clear hr
         go_enter Tryz.func173,Tryz.ntmps173
         go_wp2_with fail
         refine HI.out.mono ?_
         rintro e w' ⟨rfl,rfl⟩
         go_wp2_with fail
         refine HCA.out.mono ?_
         rintro e w1 ⟨rfl,hb1⟩
         have HB1:=hq7 hb1
         clear hb1
         go_wp2
         go_ret2
         exact eP.none_ HR2.out HB1.out
end Go.Proofs.YtoofbflplhbpbaaGreatDoor
namespace Go.Proofs.YtoofbflplhbpbaaGreatDoor
open Go.RowKit Go.Lib
theorem Il (s:ByteArray) (w:World) (_hs:s.size≤1048576) (hascii: ∀(j:Nat) b,s.data.toList[j]?=some b→b.toNat<128):
  Calls Tryz.prog 233 #[.string s, .int .i32 65533] w fun e w'=>e= .returned (.int .i64 (-1))∧ ∃pos,w'=w.iter s pos:=by
 have HA:=hq7 hascii
 clear hascii
 go_enter Tryz.func233,Tryz.ntmps233
 go_wp2
 go_loopg [5,6] s.size (fun g _ _ wx=> ∃i:Nat,i+g=s.size∧wx=w.iter s i)
 case atStart=>exact ⟨0,by omega,rfl⟩
 case round=>
  obtain ⟨i,hig,rfl⟩:=hrel
  cases gk with
  | zero=>
   obtain rfl:i=s.size:=by omega
   have hnx:=run_next_end (P:=Tryz.prog) w s s.size
   go_wp2
   go_ret
   exact ⟨rfl,_,rfl⟩
  | succ g=>
   have hi:i<s.size:=by omega
   obtain ⟨x,hx⟩: ∃x:UInt8,s[i]'hi=x:=⟨_,rfl⟩
   have hx128:x.toNat<128:=HA.out i x (by rw [←hx];exact Lib.data_getElem? s i hi)
   have hnx:=fun ty=>run_next_ascii (P:=Tryz.prog) w s i ty hi (by rw [hx];exact hx128)
   rw [hx] at hnx
   have hne:((x.toNat:Int) == 65533)=false:=by simp;omega
   clear hx
   go_wp2
   go_roundg g
   case measure=>omega
   case rel=>exact ⟨i+1,by omega,rfl⟩
theorem Io (s:ByteArray) (hascii: ∀(j:Nat) b,s.data.toList[j]?=some b→b.toNat<128) (k:Nat) (_hk:k≤s.size) (c:UInt8) (hc:128≤c.toNat):Lib.indexByte ((s.extract k s.size).data.toList) c= -1:=by
 have hno: ∀(l:List UInt8),(∀b∈l,b.toNat<128)→Lib.indexByte l c= -1:=by
  intro l
  induction l with
  | nil=>intro _;rfl
  | cons b l ih=>
   intro h
   have hb:b≠c:=fun e=>by subst e;have:=h b (by simp);omega
   rw [Lib.indexByte,ih (fun x hx=>h x (by simp [hx]))]
   simp [hb]
 refine hno _ fun b hb=> ?_
 rw [Lib.extract_data] at hb
 obtain ⟨j,hj⟩:=List.mem_iff_getElem?.1 hb
 have:=List.mem_of_mem_drop (List.mem_of_mem_take hb)
 obtain ⟨j,hj⟩:=List.mem_iff_getElem?.1 this
 exact hascii j b hj
theorem Ip (s:ByteArray) (r:Nat) (w:World) (_hs:s.size≤1048576) (hascii: ∀(j:Nat) b,s.data.toList[j]?=some b→b.toNat<128)
  (hr:128≤r) (hr':r≤1114111) (hne:r≠65533) (hv:Utf8.valid (r:Int)=true):
  Calls Tryz.prog 233 #[.string s, .int .i32 r] w fun e w'=>e= .returned (.int .i64 (-1))∧ ∃n,w'=w.drewN n:=by
 obtain ⟨e2,e4,elast⟩:=Hz r hr
 have h1:((r:Int) == 65533)=false:=by simp;omega
 have h128: ¬((r:Int)<128):=by omega
 have hvr:Lib.validRune r=true:=by
  simp only [Utf8.valid,Bool.or_eq_true,Bool.and_eq_true,decide_eq_true_eq] at hv
  simp [Lib.validRune]
  omega
 have hcv: ∀wx:World,Calls Tryz.prog 281 #[.int .i32 r] wx fun e w'=>e= .returned (.bool true)∧wx=w':=fun wx=>
  (Tryz.utf8_ValidRune _ wx).mono fun e w' ⟨he,hw⟩=>⟨by rw [he,hvr],hw.symm⟩
 go_enter Tryz.func233,Tryz.ntmps233
 go_wp2_with (go_at_call 281;refine (hcv _).mono ?_;rintro e w' ⟨rfl,rfl⟩)
 clear hcv hvr
 obtain ⟨m,hm⟩: ∃m,(Utf8.encode (r:Int)).size=m+1:=⟨(Utf8.encode (r:Int)).size - 1,by omega⟩
 go_step3
 go_wp2
 obtain ⟨rs,hrs⟩: ∃rs,Utf8.encode (r:Int)=rs:=⟨_,rfl⟩
 rw [hrs] at e2 e4 elast hm⊢
 have EL:=hq7 elast
 have HA:=hq7 hascii
 clear hrs elast hascii hv hne h1
 refine wp_loop_rounds 1 ?_
 rw [rounds_succ]
 by_cases hlt:m<s.size
 ·have HL:(s[m]'hlt).toNat<128:=HA.out m _ (Lib.data_getElem? s _ hlt)
  have HR:128≤(rs[m]'(by omega)).toNat:=by rw [←get_at];have:=EL.out;rwa [hm] at this
  have hh:decide (m<s.size)=true:=by simp;omega
  go_wp2
  go_step3
  go_wp2
  have hmi:(m:Int)<m+1:=by omega
  have hne:((s[m]'hlt).toNat:Int)≠((rs[m]'(by omega)).toNat:Int):=by omega
  have hneb:(((s[m]'hlt).toNat:Int) ==((rs[m]'(by omega)).toNat:Int))=false:=by simp;omega
  have hib: ∀wx:World,Calls Tryz.prog 117 #[.string (s.extract (m+1) s.size), .int .u8 ((rs[m]'(by omega)).toNat:Int)] wx fun e w'=>e= .returned (.int .i64 (-1))∧w'=wx:=fun wx=>
   (Tryz.strings_IndexByte _ _ wx).mono fun e w' ⟨he,hw⟩=>⟨by rw [he,Io s HA.out (m+1) (by omega) _ (by simpa using HR)],hw⟩
  go_quiet (fail)
  go_wp2
  go_quiet ((go_at_call 117;exact iO (hib _)))
  go_wp2
  simp only [Exit.noGoto_ret,Exit.inBlock,Exit.then]
  go_ret
  exact ⟨rfl,_,rfl⟩
 ·have hh:decide (m<s.size)=false:=by simp;omega
  go_wp2
  rw [Exit.noGoto_ret]
  go_ret
  exact ⟨rfl,0,rfl⟩
theorem Iq: ∀w,(zeroValue 235).run Tryz.prog w= .ok (.agg (Array.replicate 256 (.bool false))) w:=
 (zero_of_info (n:=256) (show (Tryz.prog.info? 235).map (fun i=>(i.zero,i.size))=some (some (.agg (Array.replicate 256 (.bool false))),256) by kernel_rfl)).1
theorem Ir {cs:ByteArray} (hascii: ∀(j:Nat) b,cs.data.toList[j]?=some b→b.toNat<128) (b:UInt8) (hb:128≤b.toNat):cs.data.toList.contains b=false:=by
 cases h:cs.data.toList.contains b with
 | false=>rfl
 | true=>
  obtain ⟨j,hj⟩:=List.mem_iff_getElem?.1 (List.contains_iff_mem.1 h)
  have:=hascii j b hj
  omega
theorem Iu {s cs:ByteArray} {i n:Nat} (hascii: ∀(j:Nat) b,cs.data.toList[j]?=some b→b.toNat<128) (h:Lib.NoAny s.data.toList cs.data.toList i)
  (hn:i+n≤s.size) (hb: ∀j,i≤j→j<i+n→128≤(s.get! j).toNat):Lib.NoAny s.data.toList cs.data.toList (i+n):=fun j b hj hx=>by
 by_cases e:j<i
 ·exact h j b e hx
 ·have:=hb j (by omega) hj
  rw [get_at s j (by omega)] at this
  rw [jV s j (by omega)] at hx
  cases hx
  exact Ir hascii _ this
theorem Iw (cs:ByteArray) (c:Nat) (w:World) (hc:cs.size≤1048576) (hascii: ∀(j:Nat) b,cs.data.toList[j]?=some b→b.toNat<128) (h:128≤c→c≤1114111∧Utf8.valid (c:Int)=true):
  Calls Tryz.prog 233 #[.string cs, .int .i32 c] w fun e w'=>e= .returned (.int .i64 (if c<128 then Lib.indexByte cs.data.toList c.toUInt8 else -1))∧Below w.heap.size w w':=by
 by_cases hlt:c<128
 ·refine (Tryz.strings_IndexRune_ascii cs c w (by omega) (by omega)).mono fun e w' ⟨h,h'⟩=>⟨by rw [h,if_pos hlt];rfl,by rw [h'];exact Below.refl _ _⟩
 ·obtain ⟨h1,h2⟩:=h (by omega)
  by_cases he:c=65533
  ·subst he
   refine (Il cs w hc hascii).mono fun e w' ⟨h,pos,h'⟩=>⟨by rw [h,if_neg hlt],by rw [h'];exact (Below.refl _ _).alloc (Nat.le_refl _) _⟩
  ·refine (Ip cs c w hc hascii (by omega) h1 he h2).mono fun e w' ⟨h,n,h'⟩=>⟨by rw [h,if_neg hlt],by rw [h'];exact below_drewN (Below.refl _ _) n⟩
theorem below_iterAt {B:Nat} {w:World} {k:Nat} {s:ByteArray} {p:Nat} (_h:B≤w.heap.size) (hk:B≤k):Below B w (w.iterAt k s p):=
 ⟨rfl,rfl,rfl,by simp [World.iterAt],fun j hj=>by
  simp only [World.iterAt]
  rw [Array.getElem?_setIfInBounds,if_neg (by omega)]⟩
theorem pJ (s cs:ByteArray) (w:World) (hs:s.size<4294967281) (h2:2≤cs.size) (hc:cs.size≤1048576) (hascii: ∀(j:Nat) b,cs.data.toList[j]?=some b→b.toNat<128):
  Calls Tryz.prog 171 #[.string s, .string cs] w fun e w'=>e= .returned (.int .i64 (Lib.indexAny s.data.toList cs.data.toList))∧Below w.heap.size w w':=by
 by_cases h8:8<s.size
 ·refine (Tryz.strings_IndexAny_long Iq s cs w h2 h8 hs (by omega) hascii).mono fun e w' ⟨h,h'⟩=>⟨h, ?_⟩
  subst h'
  exact ((Below.refl _ _).alloc (Nat.le_refl _) _).alloc (by simp) _
 ·have HA:=hq7 hascii
  clear hascii
  have hemp:cs.toList.isEmpty=false:=by
   rw [Lib.toList_data]
   cases h:cs.data.toList with
   | nil=>have:=Lib.size_eq cs;rw [h,List.length_nil] at this;omega
   | cons _ _=>rfl
  have hn1:((cs.size:Int) == 1)=false:=beq_eq_false_iff_ne.2 (by omega)
  have h8z:decide ((8:Int)<(s.size:Int))=false:=decide_eq_false (by omega)
  have hsu: ∀wx:World,Calls Tryz.prog 234 #[.int .i64 s.size] wx fun e w'=>e= .returned (.bool false)∧wx=w':=fun wx=>
   (Tryz.strings_shouldUseASCIISet _ wx).mono fun e w' ⟨he,hw⟩=>⟨by rw [he,h8z],hw.symm⟩
  go_enter Tryz.func171,Tryz.ntmps171
  go_wp2_with (go_at_call 234;refine (hsu _).mono ?_;rintro e w' ⟨rfl,rfl⟩)
  go_loopg [9,10] s.size (fun g _ _ wx=> ∃i:Nat,i+g=s.size∧wx.heap[w.heap.size]?=some (.stringIter s i)∧Below w.heap.size w wx∧Lib.NoAny s.data.toList cs.data.toList i)
  case atStart=>exact ⟨0,by omega,World.iter_heap _ _ _,(Below.refl _ _).alloc (Nat.le_refl _) _,Lib.NoAny.zero _ _⟩
  case round=>
   obtain ⟨i,hig,hit,hb,hno⟩:=hrel
   have HN:=hq7 hno
   have HI:=hq7 hit
   clear hno
   cases gk with
   | zero=>
    obtain rfl:i=s.size:=by omega
    have hnx:=fun ty=>Lib.run_next_end_at (P:=Tryz.prog) wr w.heap.size s s.size ty HI.out (by omega)
    clear hit
    go_wp2
    go_ret
    exact ⟨by rw [Lib.indexAny_none (by rw [←Lib.size_eq];exact HN.out)];rfl,hb⟩
   | succ g=>
    have hi:i<s.size:=by omega
    have hnx:=fun ty=>Lib.run_next_any_at (P:=Tryz.prog) wr w.heap.size s i ty HI.out hi
    clear hit
    obtain ⟨d,hd⟩: ∃d,Utf8.decode s i=d:=⟨_,rfl⟩
    rw [hd] at hnx
    have hrune:=fun wx=>Iw cs d.1 wx hc HA.out (fun h128=>by
     by_cases h1:(s[i]'hi).toNat<128
     ·rw [decode_ascii s i hi h1] at hd;subst hd;omega
     ·obtain ⟨_,a2,a3,_⟩:=decode_high s i hi (by omega)
      rw [hd] at a2 a3
      exact ⟨a2,a3⟩)
    have HD:=hq7 hd
    clear hd
    obtain ⟨R,hR⟩: ∃R:Int,(if d.1<128 then Lib.indexByte cs.data.toList d.1.toUInt8 else -1)=R:=⟨_,rfl⟩
    rw [hR] at hrune
    have HR:=hq7 hR
    clear hR
    by_cases h0:0≤R
    ·have h1:d.1<128:=by
      have:=HR.out
      split at this
      ·assumption
      ·omega
     go_wp2_with (go_at_call 233;refine (hrune _).mono ?_;rintro e w' ⟨rfl,hb'⟩)
     go_ret
     have hs1:(s[i]'hi).toNat<128:=by
      rcases Nat.lt_or_ge (s[i]'hi).toNat 128 with h | h
      ·exact h
      ·have:=(decode_high s i hi h).1
       rw [HD.out] at this
       omega
     have hd2:=decode_ascii s i hi hs1
     rw [HD.out] at hd2
     subst hd2
     refine ⟨?_, ?_⟩
     ·rw [Lib.indexAny_hit HN.out (jV s i hi)]
      ·rfl
      ·rw [Lib.contains_iff_indexByte]
       have:=HR.out
       simp only [hs1,if_true] at this
       simp at this
       rw [this]
       simpa using h0
     ·exact (hb.trans (below_iterAt hb.size (Nat.le_refl _))).trans (hb'.mono (by simpa [World.iterAt] using hb.size))
    ·go_wp2_with (go_at_call 233;refine (hrune _).mono ?_;rintro e w' ⟨rfl,hb'⟩)
     have hb2:=(hb.trans (below_iterAt (s:=s) (p:=i+d.2) hb.size (Nat.le_refl _))).trans (hb'.mono (by simpa [World.iterAt] using hb.size))
     have hlt:w.heap.size<wr.heap.size:=(Array.getElem?_eq_some_iff.1 HI.out).1
     have hcase:1≤d.2∧i+d.2≤s.size∧Lib.NoAny s.data.toList cs.data.toList (i+d.2):=by
      by_cases h1:(s[i]'hi).toNat<128
      ·have hd2:=decode_ascii s i hi h1
       rw [HD.out] at hd2
       subst hd2
       refine ⟨by simp,by simp;omega,HN.out.succ (jV s i hi) ?_⟩
       have:=HR.out
       simp only [h1,if_true] at this
       simp at this
       rw [Lib.contains_iff_indexByte,this]
       simpa using h0
      ·obtain ⟨_,_,_,a4,a5,a6⟩:=decode_high s i hi (by omega)
       rw [HD.out] at a4 a5 a6
       exact ⟨a4,a5,Iu HA.out HN.out a5 a6⟩
     obtain ⟨a4,a5,a6⟩:=hcase
     go_roundg (s.size -(i+d.2))
     case measure=>omega
     case rel=>exact ⟨i+d.2,by omega,(hb'.block _ (by simpa [World.iterAt] using hlt)).trans (by simp [World.iterAt,hlt]),hb2,a6⟩
end Go.Proofs.YtoofbflplhbpbaaGreatDoor
