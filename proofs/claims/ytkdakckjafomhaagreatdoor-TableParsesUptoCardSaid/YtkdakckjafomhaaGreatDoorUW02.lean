/- Contracts and plain laws,part 2. -/
import Derived.Test.YtkdakckjafomhaaGreatDoorUW01
set_option linter.all false
namespace Go.Proofs.YtkdakckjafomhaaGreatDoor.Num
open Go
def vH (c:UInt8):Nat:=if 97<=c.toNat/\c.toNat<=102 then c.toNat - 87 else c.toNat % 16
theorem agH (c:UInt8):vH c<16:=by unfold vH;split<;>omega
theorem agI {c:UInt8} {d:Nat} (h:jr c=some d):vH c=d:=by
 unfold jr at h;unfold vH
 split at h
 ·rw[ade (by omega)];simp at h;omega
 split at h
 ·rename_i h2;rw[adk h2];simpa using h
 cases h
def zY (c:UInt8):Bool:=c == 112 || c == 109
def iq:Nat->L->Nat->Nat×L×Nat
 |0,l,sig=>(sig,l,0)
 |k+1,[],sig=>(sig,[],k+1)
 |k+1,c :: r,sig=>if zY c then(sig,c :: r,k+1) else iq k r (sig*16+vH c)
def mJ:Nat->L->Nat->Nat
 |0,_,e=>e
 |_+1,[],e=>e
 |k+1,c :: r,e=>mJ k r (e*10+c.toNat % 16)
def oD:Nat->Nat->Int->Nat×Int
 |0,s,e=>(s,e)
 |k+1,s,e=>if e< -1022/\0<s then oD k (s / 2) (e+1) else(s,e)
def CU (x:Nat×Int):Nat:=if x.1<4503599627370496\/1023<x.2 then x.1 % 4503599627370496 else(x.2+1022).toNat*4503599627370496+x.1
def tX (c:UInt8) (n:Nat):Int:=if c=109 then -(n:Int) else n
def EJ (y:Nat×L×Nat):Nat:=
 match y.2.1 with
 |[]=>0
 |c :: r=>CU (oD 64 (y.1*16 ^ y.2.2) (tX c (mJ 4 r 0)))
def guess (t:L):Nat:=if t.length<5 then 0 else EJ (iq 13 (if t[3]?=some 46 then t.drop 4 else t.drop 3) 1)
theorem SL: ∀(k:Nat) (l:L) (sig M:Nat),sig<M->(iq k l sig).1*16 ^(iq k l sig).2.2<M*16 ^ k
 |0,l,sig,M,h=>by simpa[iq] using h
 |k+1,[],sig,M,h=>by
  simp only[iq];exact ana h (ano (by decide))
 |k+1,c :: r,sig,M,h=>by
  simp only[iq]
  split
  ·exact ana h (ano (by decide))
  have:=SL k r (sig*16+vH c) (M*16) (by have:=agH c;omega)
  have e:M*16 ^(k+1)=M*16*16 ^ k:=by rw[afk,afY,afV 16]
  rw[e];exact this
theorem YK: ∀(k:Nat) (l:L) (e:Nat),mJ k l e<=(e+2)*10 ^ k
 |0,l,e=>by simp[mJ]
 |k+1,[],e=>by
  simp only[mJ];have h1:1<=10 ^(k+1):=Nat.one_le_pow _ _ (by decide)
  have:=aoZ (e+2) h1;omega
 |k+1,c :: r,e=>by
  simp only[mJ];have h:=YK k r (e*10+c.toNat % 16)
  have h2:(e*10+c.toNat % 16+2)*10 ^ k<=((e+2)*10)*10 ^ k:=af8 _ (by omega)
  have e2:(e+2)*10 ^(k+1)=(e+2)*10*10 ^ k:=by rw[afk,afY,afV 10]
  rw[e2];exact adg h h2
theorem YL: ∀(k s:Nat) (e:Int),(oD k s e).1<=s
 |0,s,e=>ac4 _
 |k+1,s,e=>by
  simp only[oD]
  split
  ·have:=YL k (s / 2) (e+1);omega
  exact ac4 _
theorem SN {k s:Nat} {e:Int} (h: ¬(e< -1022/\0<s)):oD k s e=(s,e):=by
 cases k with
 |zero=>rfl
 |succ k=>simp only[oD];rw[ade h]
theorem YM: ∀(d k s:Nat) (e:Int),d<=k->e+d= -1022->2 ^ d<=s->oD k s e=(s / 2 ^ d,-1022)
 |0,k,s,e,_,he,_=>by
  have:e= -1022:=by omega
  subst this;rw[SN (by omega)]
  simp
 |d+1,k,s,e,hk,he,hs=>by
  obtain⟨k',rfl⟩: ∃k',k=k'+1:=⟨k - 1,by omega⟩
  have h1:0<2 ^(d+1):=ano (by decide)
  simp only[oD]
  rw[adk (by omega),YM d k' (s / 2) (e+1) (by omega) (by omega) (by rw[afk]at hs;omega),ao8,afk,afV 2]
theorem YN: ∀(h:L) (k:Nat) (rest:L) (sig n:Nat),hexVal h sig=some n->h.length<=k->(∃c r,rest=c :: r/\zY c=true)->iq k (h++rest) sig=(n,rest,k - h.length)
 |[],k,rest,sig,n,hv,_,⟨c,r,e,hc⟩=>by
  simp[hexVal]at hv;subst hv e;cases k with
  |zero=>simp[iq]
  |succ k=>simp[iq,hc]
 |d :: h,k,rest,sig,n,hv,hl,hr=>by
  obtain⟨k',rfl⟩: ∃k',k=k'+1:=⟨k - 1,by simp at hl;omega⟩
  simp only[hexVal]at hv;cases hd:jr d with
  |none=>rw[hd]at hv;cases hv
  |some v=>
   rw[hd]at hv;simp only at hv
   have hp:zY d=false:=by
    have h1:=Yx hd;have h2:=Ic hd;have h3:=YG ⟨v,h2⟩;rw[h1]at h3;simp[zY,h3.1,h3.2]
   simp only[afq,iq,hp,agc,aow];rw[agI hd,YN h k' rest _ n hv (by simpa using hl) hr]
   simp
theorem SQ: ∀(r:L) (k e:Nat),r.all bn=true->r.length<=k->mJ k r e=aQ e r
 |[],0,e,_,_=>rfl
 |[],k+1,e,_,_=>rfl
 |c :: r,k,e,h,hl=>by
  obtain⟨k',rfl⟩: ∃k',k=k'+1:=⟨k - 1,by simp at hl;omega⟩
  simp only[am1,aeW,jX]at h;simp only[mJ];rw[rQ,SQ r k' _ h.2 (by simpa using hl)]
  congr 1
  omega
theorem agJ {e:Int} (h1:e<=1023) (h2: -1074<=e): ∃c r,fV e=c :: r/\zY c=true/\tX c (mJ 4 r 0)=e/\1<=r.length:=by
 unfold fV;by_cases hn:e<0
 ·rw[adk hn]
  obtain⟨n,hN⟩: ∃n:Nat,-e=n:=⟨(-e).toNat,by omega⟩
  rw[hN];obtain⟨hg,hv⟩:=Oq n;refine⟨109,_,rfl,rfl, ?_, ?_⟩
  ·rw[SQ _ 4 0 hg.1 (Ot n (by omega)),hv]
   unfold tX;rw[adk rfl];omega
  exact aeX.2 (Oo hg)
 rw[ade hn];obtain⟨n,hN⟩: ∃n:Nat,e=n:=⟨e.toNat,by omega⟩
 subst hN;obtain⟨hg,hv⟩:=Oq n;refine⟨112,_,rfl,rfl, ?_, ?_⟩
 ·rw[SQ _ 4 0 hg.1 (Ot n (by omega)),hv]
  unfold tX;rw[ade (by decide)]
 exact aeX.2 (Oo hg)
theorem SS: ∀(h:L) (acc n:Nat),hexVal h 0=some n->hexVal h acc=some (acc*16 ^ h.length+n)
 |[],acc,n,hv=>by simp[hexVal]at hv;subst hv;simp[hexVal]
 |c :: r,acc,n,hv=>by
  simp only[hexVal]at hv⊢;cases hc:jr c with
  |none=>rw[hc]at hv;cases hv
  |some d=>
   rw[hc]at hv;simp only at hv⊢
   obtain⟨m,hm⟩: ∃m,hexVal r 0=some m:=by
    cases hr:hexVal r 0 with
    |some m=>exact⟨m,rfl⟩
    |none=>
     exfalso
     have key: ∀(r:L) (a b:Nat),hexVal r a=none->hexVal r b=none:=by
      intro r
      induction r with
      |nil=>intro a b h;simp[hexVal]at h
      |cons x r ih=>
       intro a b h;simp only[hexVal]at h⊢;cases hx:jr x with
       |none=>rfl
       |some y=>rw[hx]at h;exact ih _ _ h
     rw[key r 0 _ hr]at hv;cases hv
   rw[SS r (0*16+d) m hm]at hv;rw[SS r (acc*16+d) m hm];simp only[aeK]at hv⊢
   rw[adQ,afk]
   have e1:(acc*16+d)*16 ^ r.length=acc*(16 ^ r.length*16)+d*16 ^ r.length:=by
    rw[apY,afY,afV 16]
   have e2:(0*16+d)*16 ^ r.length=d*16 ^ r.length:=by rw[anv,afW]
   rw[e1];rw[e2]at hv;rw[<-hv,amQ]
theorem YO {sig j:Nat} {c:UInt8} {r:L}:EJ (sig,c :: r,j)=CU (oD 64 (sig*16 ^ j) (tX c (mJ 4 r 0))):=rfl
theorem YP {f:Nat} {e:Int} (hf:f<4503599627370496) (h1:e<=1023) (h2: -1074<=e):CU (oD 64 (4503599627370496+f) e)=bitsOf f e:=by
 by_cases he: -1022<=e
 ·rw[SN (by omega)]
  unfold CU bitsOf;simp only;rw[ade (by omega),adk he]
  omega
 obtain⟨d,hd⟩:=aj ((-1022 - e).toNat:Nat)
 have hp:2 ^ d<=2 ^ 52:=afa (by decide) (by omega)
 have hp1:2 ^ 1<=2 ^ d:=afa (by decide) (by omega)
 rw[YM d 64 _ e (by omega) (by omega) (by omega)]
 unfold CU bitsOf;simp only
 have hs:(4503599627370496+f) / 2 ^ d<4503599627370496:=by
  rw[Nat.div_lt_iff_lt_mul (by omega)]
  have:4503599627370496*2<=4503599627370496*2 ^ d:=afZ _ (by omega)
  omega
 rw[adk (.inl hs),ade he,hd,Nat.mod_eq_of_lt hs]
theorem agK {f:Nat} {e:Int} (hf:f<4503599627370496) (h1:e<=1023) (h2: -1074<=e):guess (form f e)=bitsOf f e:=by
 obtain⟨c,r,hx,hc,hs,hl⟩:=agJ h1 h2
 have hlen: ¬(form f e).length<5:=by
  unfold form;rw[adf,adf,hx];simp;omega
 unfold guess;rw[ade hlen];by_cases h0:f=0
 ·have e1:lI f=[]:=by unfold lI;rw[adk h0]
  have e2:form f e=48 :: 120 :: 49 :: c :: r:=by unfold form;rw[e1,hx];rfl
  have hne: ¬(48 :: 120 :: 49 :: c :: r:L)[3]?=some 46:=by
   simp;intro h;subst h;cases hc
  rw[e2,ade hne]
  show EJ (iq 13 (c :: r) 1)=_
  have e3:iq 13 (c :: r) 1=(1,c :: r,13):=by simp[iq,hc]
  rw[e3,YO,hs,<-YP hf h1 h2,h0]
 obtain⟨j,t1,t2⟩:=Ig _ (hexN 13 f) rfl
 have e1:lI f=46 :: Lib.trimRightS (hexN 13 f) [48]:=by unfold lI;rw[ade h0]
 obtain⟨h,hh⟩:=aj (Lib.trimRightS (hexN 13 f) [48]);rw[hh]at t1 t2 e1
 have hv:=Oj 13 f 0 (by simpa using hf)
 have hlen:=uQ 13 f;rw[t1,adf,List.length_replicate]at hlen;rw[t1,Ie]at hv
 cases hm:hexVal h 0 with
 |none=>rw[hm]at hv;simp at hv
 |some m=>
  rw[hm]at hv;simp only[an0,Om,aeK,anv,afW]at hv
  have e2:form f e=48 :: 120 :: 49 :: 46 ::(h++c :: r):=by unfold form;rw[e1,hx];rfl
  have amH:(48 :: 120 :: 49 :: 46 ::(h++c :: r):L)[3]?=some 46:=rfl;rw[e2,adk amH]
  show EJ (iq 13 (h++c :: r) 1)=_
  have e5:(1*16 ^ h.length+m)*16 ^(13 - h.length)=4503599627370496+f:=by
   rw[show 13 - h.length=j by omega,apY,hv,aqQ,<-aob,show h.length+j=13 by omega]
  rw[YN h 13 (c :: r) 1 _ (SS h 1 m hm) (by omega) ⟨c,r,rfl,hc⟩,YO,hs,e5,YP hf h1 h2]
def EK (t:L):Nat:=if t=ZERO then 0 else if t=rU then 9218868437227405312 else guess t
def OB (neg:Bool) (t s:L):Option Nat:=
 let b:=EK t
 let x:=(if neg then 9223372036854775808 else 0)+b
 if b<=9218868437227405312/\fmt x=s then some x else none
def yY (s:L):Option Nat:=
 if s=pO then some 9221120237041090560 else
 if s.head?=some 45 then OB true (s.drop 1) s else OB false s s
theorem YQ {a:Nat} (h:a<=9218868437227405312):EK (dV a)=a:=by
 unfold EK dV;by_cases hi:a=9218868437227405312
 ·rw[adk hi,ade (by decide),adk rfl,hi]
 rw[ade hi];by_cases h0:a=0
 ·rw[adk h0,adk rfl,h0]
 rw[ade h0];obtain⟨p1,p2,p3,p4,p5⟩:=Ov h0 (by omega)
 obtain⟨_,_,q3,q4⟩:=Oy (gU a) (gI a);rw[ade q4,ade q3,agK p1 p2 p3,p4]
theorem agL (s:L):yY s=parse s:=by
 by_cases hn:s=pO
 ·unfold yY parse;rw[adk hn,adk hn]
 cases hp:parse s with
 |none=>
  have hno: ∀x,x<18446744073709551616->fmt x≠s:=fun x hx e=>by
   rw[<-e,YJ hx]at hp;cases hp
  unfold yY OB;rw[ade hn]
  split
  ·simp only[aoH]
   rw[ade];rintro⟨h1,h2⟩;exact hno _ (by omega) h2
  simp only[agc,aow];rw[ade];rintro⟨h1,h2⟩;exact hno _ (by omega) h2
 |some b=>
  obtain⟨g1,g2,g3⟩:=OA hp;unfold parse at hp;rw[ade hn]at hp;unfold yY OB;rw[ade hn]
  split at hp
  ·rename_i hd
   rw[adk hd];cases hq:jZ (s.drop 1) with
   |none=>rw[hq]at hp;cases hp
   |some a=>
    rw[hq]at hp;simp only[afs,aeK]at hp;obtain⟨r1,r2⟩:=Oz hq;have e:=YQ r2
    rw[<-r1]at e;simp only[aoH];rw[e,adk ⟨r2,by rw[hp];exact g1⟩,hp]
  rename_i hd;rw[ade hd];obtain⟨r1,r2⟩:=Oz hp;have e:=YQ r2;rw[<-r1]at e
  simp only[agc,aow,afW];rw[e,adk ⟨r2,g1⟩]
end Go.Proofs.YtkdakckjafomhaaGreatDoor.Num
namespace Go.Proofs.YtkdakckjafomhaaGreatDoor.ak
open Go
abbrev L:=List UInt8
structure V where
 kind:Int
 num:Int
 text:L
 nums:List Int
 texts:List L
def V0:V:=⟨0,0,[],[],[]⟩
def u64 (n:Int):Nat:=(n % 18446744073709551616).toNat
def Aj (b:Nat):Int:=if b<9223372036854775808 then(b:Int) else(b:Int) - 18446744073709551616
def In64 (n:Int):Prop:= -9223372036854775808<=n/\n<=9223372036854775807
def zZ (n:Int):Bool:=decide (9218868437227405312<u64 n % 9223372036854775808) && decide (u64 n≠9221120237041090560)
def gJ (k n:Int):Nat:=if k=1/\n≠0/\n≠1 then 42 else if k=3/\zZ n=true then 43 else 0
def mM (k:Int):List Int->Nat
 |[]=>0
 |n :: r=>if gJ k n≠0 then gJ k n else mM k r
def kP (l:List L):Bool:=l.any fun s=>decide (1000<s.length)
def Unused (v:V):Prop:=(v.num≠0/\3<v.kind)\/(v.text≠ []/\v.kind≠4)\/(v.nums≠ []/\(v.kind<5\/v.kind=8))\/(v.texts≠ []/\v.kind≠8)
instance (v:V):Decidable (Unused v):=by unfold Unused;infer_instance
def check (v:V):Nat:=
 if v.kind<1\/8<v.kind then 40 else
 if Unused v then 41 else
 if 40<v.nums.length\/40<v.texts.length then 45 else
 if 1000<v.text.length\/kP v.texts=true then 44 else
 if v.kind<4 then gJ v.kind v.num else mM (v.kind - 4) v.nums
def cls (k:Int):UInt8:=if k=1 then 98 else if k=2 then 105 else if k=3 then 102 else 115
def letter (k:Int):L:=if 4<k then[cls (k - 4),91,93] else[cls k]
def TRUE:L:=[116,114,117,101]
def FALSE:L:=[102,97,108,115,101]
def gK (k n:Int):L:=if k=2 then Lib.itoa n else if k=3 then Num.fmt (u64 n) else if n=0 then FALSE else TRUE
def iw:L->L
 |[]=> []
 |c :: r=>if c=92\/c=59 then 92 :: c :: iw r else c :: iw r
def iZ (k n:Int):L:=gK k n++[59]
def textE (t:L):L:=iw t++[59]
def print (v:V):L:=letter v.kind++[58] ++(if v.kind<4 then gK v.kind v.num else[])++v.text++v.nums.flatMap (iZ (v.kind - 4))++v.texts.flatMap textE
def rV (v:V):L×Nat:=if check v=0 then(print v,0) else([],check v)
def fZ (k:Int) (s:L):Int×Nat:=
 if k=1 then(if s=TRUE then(1,0) else if s=FALSE then(0,0) else(0,220)) else
 if k=2 then Num.iK s else
 match Num.parse s with
 |some b=>(Aj b,0)
 |none=>(0,52)
def ku:L->L->Option (L×L)
 |[],_=>none
 |c :: r,b=>if c=59 then some (b,r) else ku r (b++[c])
def elem:L->L->Option (L×L)
 |[],_=>none
 |[c],b=>if c=59 then some (b,[]) else none
 |c :: d :: r,b=>
  if c=59 then some (b,d :: r) else
  if c=92 then(if d=92\/d=59 then elem r (b++[d]) else none) else elem (d :: r) (b++[c])
def kQ (k:Int):Nat->L->List Int->List Int×Nat
 |0,_,acc=>(acc,0)
 |f+1,l,acc=>
  if l=[] then(acc,0) else
  match ku l [] with
  |none=>([],220)
  |some (s,r)=>if(fZ k s).2≠0 then([],(fZ k s).2) else kQ k f r (acc++[(fZ k s).1])
def lK:Nat->L->List L->List L×Nat
 |0,_,acc=>(acc,0)
 |f+1,l,acc=>
  if l=[] then(acc,0) else
  match elem l [] with
  |none=>([],220)
  |some (s,r)=>lK f r (acc++[s])
def kindOf (c:UInt8):Int:=if c=98 then 1 else if c=105 then 2 else if c=102 then 3 else if c=115 then 4 else 0
def dK:L->Option (Int×L)
 |[]=>none
 |c :: r=>
  if Lib.hasPrefix r [91,93]=true then
   (if kindOf c=0\/Lib.hasPrefix (r.drop 2) [58]=false then none else some (kindOf c+4,r.drop 3))
  else
   (if kindOf c=0\/Lib.hasPrefix r [58]=false then none else some (kindOf c,r.drop 1))
def iL (k:Int) (r:L):V×Nat:=
 if 4<k then
  (if k=8 then(⟨k,0,[],[],(lK (r.length+1) r []).1⟩,(lK (r.length+1) r []).2)
   else(⟨k,0,[],(kQ (k - 4) (r.length+1) r []).1,[]⟩,(kQ (k - 4) (r.length+1) r []).2))
 else if k=4 then(⟨4,0,r,[],[]⟩,0)
 else(⟨k,(fZ k r).1,[],[],[]⟩,(fZ k r).2)
def parse (s:L):V×Nat:=
 match dK s with
 |none=>(V0,220)
 |some (k,r)=>if(iL k r).2≠0 then(V0,(iL k r).2) else if check (iL k r).1≠0 then(V0,check (iL k r).1) else((iL k r).1,0)
theorem EM (n:Int):u64 n<18446744073709551616:=by unfold u64;omega
theorem agM {n:Int} (h:In64 n):Aj (u64 n)=n:=by
 obtain⟨h1,h2⟩:=h;unfold Aj u64
 split<;>omega
theorem agN {b:Nat} (h:b<18446744073709551616):u64 (Aj b)=b:=by
 unfold Aj u64
 split<;>omega
theorem agO {b:Nat} (h:b<18446744073709551616):In64 (Aj b):=by
 unfold Aj In64
 split<;>omega
theorem agP {n:Int} (h:zZ n=false):Num.canon (u64 n)=u64 n:=by
 unfold Num.canon
 split
 ·rename_i h1
  unfold zZ at h;rw[adb h1,Bool.true_and,an1,Decidable.not_not]at h;exact h.symm
 rfl
theorem YR {k n:Int} (hk:1<=k) (hk3:k<=3) (hn:In64 n) (h:gJ k n=0):fZ k (gK k n)=(n,0):=by
 unfold fZ gK;by_cases h2:k=2
 ·rw[ade (by omega),adk h2,adk h2]
  exact Num.Yv n hn.1 hn.2
 by_cases h3:k=3
 ·rw[ade (by omega),ade h2,ade h2,adk h3,Num.YJ (EM n)]
  have hb:zZ n=false:=by
   cases hb:zZ n with
   |false=>rfl
   |true=>unfold gJ at h;rw[ade (by omega),adk ⟨h3,hb⟩]at h;omega
  simp only;rw[agP hb,agM hn]
 have h1:k=1:=by omega
 rw[adk h1,ade h2,ade h3];by_cases hz:n=0
 ·rw[adk hz,hz];rfl
 have hone:n=1:=by
  unfold gJ at h;by_cases h9:n=1
  ·exact h9
  rw[adk ⟨h1,hz,h9⟩]at h;omega
 rw[ade hz,hone];rfl
theorem SV {k n:Int} {s:L} (hk:1<=k) (hk3:k<=3) (h:fZ k s=(n,0)):gK k n=s/\In64 n:=by
 unfold fZ at h;unfold gK;by_cases h2:k=2
 ·rw[ade (by omega),adk h2]at h
  rw[adk h2];refine⟨Num.agr h, ?_⟩;have:=h;unfold Num.iK at this;simp only at this
  unfold In64
  repeat' split at this
  all_goals first
   |(simp only[afu]at this;omega)
   |(obtain⟨rfl,-⟩:=Prod.mk.inj this;omega)
 by_cases h3:k=3
 ·rw[ade (by omega),ade h2]at h
  rw[ade h2,adk h3];cases hp:Num.parse s with
  |none=>rw[hp]at h;simp at h
  |some b=>
   rw[hp]at h;simp only[afu,arB]at h;obtain⟨g1,g2,-⟩:=Num.OA hp;subst h
   exact⟨by rw[agN g2,g1],agO g2⟩
 have h1:k=1:=by omega
 rw[adk h1]at h;rw[ade h2,ade h3]
 split at h
 ·rename_i e
  cases h;exact⟨by rw[e];rfl,by unfold In64;omega⟩
 split at h
 ·rename_i e
  cases h;exact⟨by rw[e];rfl,by unfold In64;omega⟩
 cases h
theorem agQ {c:UInt8} (h:Num.bn c=true):c≠59:=by
 rintro rfl;exact absurd h (by decide)
theorem SX (n:Int): ∀x∈Lib.itoa n,x≠59:=by
 obtain⟨neg,r,e,hg,-⟩:=Num.SB n;intro x hx;rw[e]at hx
 rcases aem.1 hx with h|h
 ·cases neg with
  |true=>rw[ael.1 h];decide
  |false=>cases h
 exact agQ (afF.1 hg.1 x h)
theorem agR: ∀d:Fin 16,Num.nR d.val≠59:=by decide
theorem YS: ∀(k n:Nat),∀x∈Num.hexN k n,x≠59
 |0,n,x,h=>by simp[Num.hexN]at h
 |k+1,n,x,h=>by
  unfold Num.hexN at h
  rcases aem.1 h with h|h
  ·exact YS k _ x h
  rw[ael.1 h];exact agR ⟨n % 16,arq _ (by decide)⟩
theorem agS (f:Nat): ∀x∈Num.lI f,x≠59:=by
 intro x hx;unfold Num.lI at hx
 split at hx
 ·cases hx
 rcases aeY.1 hx with rfl|h
 ·decide
 obtain⟨j,e,-⟩:=Num.Ig _ (Num.hexN 13 f) rfl;exact YS 13 f x (by rw[e];exact anB _ h)
theorem agT (e:Int): ∀x∈Num.fV e,x≠59:=by
 intro x hx;unfold Num.fV at hx
 split at hx
 ·rcases aeY.1 hx with rfl|h
  ·decide
  exact SX _ x h
 rcases aeY.1 hx with rfl|h
 ·decide
 exact SX _ x h
theorem Ih: ∀x∈Num.pO++Num.rU++Num.ZERO++[45,48,120,49]++TRUE++FALSE,x≠(59:UInt8):=by decide
theorem agU (f:Nat) (e:Int): ∀x∈Num.form f e,x≠59:=by
 intro x hx;unfold Num.form at hx
 rcases aem.1 hx with h|h
 ·exact Ih x (by simp at h⊢;rcases h with rfl|rfl|rfl<;>simp)
 rcases aem.1 h with h|h
 ·exact agS f x h
 exact agT e x h
theorem agV (b:Nat): ∀x∈Num.fmt b,x≠59:=by
 intro x hx;unfold Num.fmt at hx
 split at hx
 ·exact Ih x (by simp only[aem];simp[hx])
 rcases aem.1 hx with h|h
 ·unfold Num.sg at h
  split at h
  ·rw[ael.1 h];decide
  cases h
 unfold Num.dV at h
 split at h
 ·exact Ih x (by simp only[aem];simp[h])
 split at h
 ·exact Ih x (by simp only[aem];simp[h])
 exact agU _ _ x h
theorem agW (k n:Int): ∀x∈gK k n,x≠59:=by
 intro x hx;unfold gK at hx
 repeat' split at hx
 ·exact SX _ x hx
 ·exact agV _ x hx
 ·exact Ih x (by simp only[aem];simp[hx])
 exact Ih x (by simp only[aem];simp[hx])
theorem YT: ∀(a r b:L),(∀x∈a,x≠59)->ku (a++59 :: r) b=some (b++a,r)
 |[],r,b,_=>by simp[ku]
 |c :: a,r,b,h=>by
  rw[afq,ku,ade (h c (by simp)),YT a r _ (fun x hx=>h x (by simp[hx]))]
  simp
theorem OC: ∀(l b x r:L),ku l b=some (x,r)-> ∃a,x=b++a/\l=a++59 :: r
 |[],b,x,r,h=>by cases h
 |c :: l,b,x,r,h=>by
  unfold ku at h
  split at h
  ·rename_i hc
   cases h;exact⟨[],by simp,by rw[hc];rfl⟩
  obtain⟨a,e1,e2⟩:=OC l _ x r h;exact⟨c :: a,by rw[e1];simp,by rw[e2];rfl⟩
theorem elem_cons {c:UInt8} {l b:L} (h1:c≠59) (h2:c≠92):elem (c :: l) b=elem l (b++[c]):=by
 cases l with
 |nil=>simp only[elem];rw[ade h1]
 |cons d r=>rw[elem,ade h1,ade h2]
theorem OD (l b:L):elem (59 :: l) b=some (b,l):=by
 cases l with
 |nil=>simp[elem]
 |cons d r=>simp[elem]
theorem OE {d:UInt8} {l b:L} (h:d=92\/d=59):elem (92 :: d :: l) b=elem l (b++[d]):=by
 rw[elem,ade (by decide),adk rfl,adk h]
theorem SY: ∀(t r b:L),elem (iw t++59 :: r) b=some (b++t,r)
 |[],r,b=>by rw[iw,aex,OD,aey]
 |c :: t,r,b=>by
  unfold iw
  split
  ·rename_i h
   rw[afq,afq,OE h,SY t r];simp
  rename_i h;rw[afq,elem_cons (fun e=>h (.inr e)) (fun e=>h (.inl e)),SY t r]
  simp
theorem Jz: ∀(n:Nat) (l b x r:L),l.length<=n->elem l b=some (x,r)-> ∃t,x=b++t/\l=iw t++59 :: r
 |_,[],b,x,r,_,h=>by cases h
 |0,c :: l,b,x,r,hl,h=>by simp at hl
 |n+1,c :: l,b,x,r,hl,h=>by
  rw[adQ]at hl;by_cases h1:c=59
  ·subst h1
   rw[OD]at h;cases h;exact⟨[],by simp,rfl⟩
  by_cases h2:c=92
  ·subst h2
   cases l with
   |nil=>simp[elem]at h
   |cons d l=>
    by_cases hd:d=92\/d=59
    ·rw[OE hd]at h
     obtain⟨t,e1,e2⟩:=Jz n l _ x r (by rw[adQ]at hl;omega) h
     exact⟨d :: t,by rw[e1];simp,by rw[iw,adk hd,e2];rfl⟩
    rw[elem,ade (by decide),adk rfl,ade hd]at h
    cases h
  rw[elem_cons h1 h2]at h;obtain⟨t,e1,e2⟩:=Jz n l _ x r (by omega) h
  exact⟨c :: t,by rw[e1];simp,by rw[iw,ade (fun e=>e.elim h2 h1),e2];rfl⟩
theorem YU (k n:Int):1<=(iZ k n).length:=by unfold iZ;simp
theorem agX (t:L):1<=(textE t).length:=by unfold textE;simp
theorem YV {k n:Int} {r:List Int} (h:mM k (n :: r)=0):gJ k n=0/\mM k r=0:=by
 unfold mM at h
 split at h
 ·rename_i h1;exact absurd h h1
 rename_i h1;exact⟨by omega,h⟩
theorem YW {k:Int} (hk:1<=k) (hk3:k<=3): ∀(f:Nat) (ns acc:List Int),(ns.flatMap (iZ k)).length<f->(∀n∈ns,In64 n)->mM k ns=0->kQ k f (ns.flatMap (iZ k)) acc=(acc++ns,0)
 |0,_,_,h,_,_=>by omega
 |f+1,[],acc,_,_,_=>by simp[kQ]
 |f+1,n :: r,acc,hf,hn,hw=>by
  obtain⟨w1,w2⟩:=YV hw
  have e:(n :: r).flatMap (iZ k)=gK k n++59 :: r.flatMap (iZ k):=by simp[iZ]
  have hl:=YU k n;rw[ae2,adf]at hf;unfold kQ;rw[e,ade (by simp),YT _ _ _ (agW k n)]
  simp only[aex]
  rw[YR hk hk3 (hn n (by simp)) w1,ade (by simp),YW hk hk3 f r _ (by omega) (fun m hm=>hn m (by simp[hm])) w2]
  simp
theorem YX: ∀(f:Nat) (ts acc:List L),(ts.flatMap textE).length<f->lK f (ts.flatMap textE) acc=(acc++ts,0)
 |0,_,_,h=>by omega
 |f+1,[],acc,_=>by simp[lK]
 |f+1,t :: r,acc,hf=>by
  have e:(t :: r).flatMap textE=iw t++59 :: r.flatMap textE:=by simp[textE]
  have hl:=agX t;rw[ae2,adf]at hf;unfold lK;rw[e,ade (by simp),SY]
  simp only[aex];rw[YX f r _ (by omega)]
  simp
theorem S9 {k:Int} (hk:1<=k) (hk3:k<=3): ∀(f:Nat) (l:L) (acc ns:List Int),l.length<f->kQ k f l acc=(ns,0)-> ∃m,ns=acc++m/\l=m.flatMap (iZ k)/\ ∀n∈m,In64 n
 |0,l,acc,ns,h,_=>by omega
 |f+1,l,acc,ns,hf,h=>by
  unfold kQ at h
  split at h
  ·rename_i hl
   cases h;exact⟨[],by simp,by rw[hl];rfl,by simp⟩
  cases hc:ku l [] with
  |none=>rw[hc]at h;simp at h
  |some x=>
   obtain⟨s,r⟩:=x;rw[hc]at h;simp only at h;obtain⟨a,e1,e2⟩:=OC l [] s r hc
   rw[aex]at e1;subst e1
   split at h
   ·rename_i hne
    simp only[afu]at h;exact absurd h.2 hne
   rename_i hne
   obtain⟨n,hn⟩: ∃n,fZ k s=(n,0):=⟨(fZ k s).1,by rw[<-Decidable.not_not.1 hne]⟩
   rw[hn]at h;obtain⟨g1,g2⟩:=SV hk hk3 hn
   obtain⟨m,e3,e4,e5⟩:=S9 hk hk3 f r _ ns (by rw[e2]at hf;simp at hf;omega) h
   refine⟨n :: m,by rw[e3];simp, ?_, ?_⟩
   ·rw[e2,e4,ae2,iZ,g1]
    simp
   intro x hx
   rcases aeY.1 hx with rfl|hx
   ·exact g2
   exact e5 x hx
theorem Tc: ∀(f:Nat) (l:L) (acc ts:List L),l.length<f->lK f l acc=(ts,0)-> ∃m,ts=acc++m/\l=m.flatMap textE
 |0,l,acc,ts,h,_=>by omega
 |f+1,l,acc,ts,hf,h=>by
  unfold lK at h
  split at h
  ·rename_i hl
   cases h;exact⟨[],by simp,by rw[hl];rfl⟩
  cases hc:elem l [] with
  |none=>rw[hc]at h;simp at h
  |some x=>
   obtain⟨s,r⟩:=x;rw[hc]at h;simp only at h;obtain⟨a,e1,e2⟩:=Jz _ l [] s r (ac4 _) hc
   rw[aex]at e1;subst e1
   obtain⟨m,e3,e4⟩:=Tc f r _ ts (by rw[e2]at hf;simp at hf;omega) h
   refine⟨s :: m,by rw[e3];simp, ?_⟩
   rw[e2,e4,ae2,textE];simp
theorem agY: ∀k:Fin 5,1<=k.val->kindOf (cls (k.val:Int))=(k.val:Int):=by decide
theorem YZ {k:Int} (h1:1<=k) (h2:k<=4):kindOf (cls k)=k:=by
 have:=agY ⟨k.toNat,by omega⟩ (by show 1<=k.toNat;omega)
 simp only at this
 rwa [show((k.toNat:Nat):Int)=k by omega]at this
theorem Y0 {c:UInt8} (h:kindOf c≠0):cls (kindOf c)=c/\1<=kindOf c/\kindOf c<=4:=by
 unfold kindOf at h⊢
 repeat' split at h
 all_goals first
  |(rename_i e;subst e;decide)
  |(exfalso;exact h rfl)
  |(rename_i a b c e;subst e;decide)
  |(rename_i a e;subst e;decide)
  |(rename_i a b e;subst e;decide)
theorem Aa (l p:L):Lib.hasPrefix l p=true↔ ∃r,l=p++r:=by
 unfold Lib.hasPrefix;rw[aqu]
 constructor
 ·rintro⟨r,hr⟩;exact⟨r,hr.symm⟩
 rintro⟨r,hr⟩;exact⟨r,hr.symm⟩
theorem Y3 (c:UInt8) (l:L):Lib.hasPrefix (c :: l) [c]=true:=(Aa _ _).2 ⟨l,rfl⟩
theorem Y4 {k:Int} (h1:1<=k) (h2:k<=8) (r:L):dK (letter k++[58]++r)=some (k,r):=by
 unfold letter;by_cases h:4<k
 ·rw[adk h]
  have hk:=YZ (k:=k - 4) (by omega) (by omega)
  show dK (cls (k - 4) :: 91 :: 93 :: 58 :: r)=_
  simp only[dK];rw[adk ((Aa (91 :: 93 :: 58 :: r) [91,93]).2 ⟨58 :: r,rfl⟩),hk]
  simp only[af9,afA];rw[Y3,ade (by rintro(h|h)<;>first|omega|cases h)]
  congr 2
  omega
 rw[ade h];have hk:=YZ (k:=k) (by omega) (by omega)
 show dK (cls k :: 58 :: r)=_
 simp only[dK]
 rw[ade (by rw[Aa];rintro⟨t,ht⟩;simp at ht),hk,Y3,ade (by rintro(h|h)<;>first|omega|cases h)]
 simp
theorem JA {s:L} {k:Int} {r:L} (h:dK s=some (k,r)):s=letter k++[58]++r/\1<=k/\k<=8:=by
 unfold dK at h
 split at h
 ·cases h
 rename_i c l
 split at h
 ·rename_i hp
  split at h
  ·cases h
  rename_i hn;simp only[aox]at hn;obtain⟨hn1,hn2⟩:=hn;obtain⟨g1,g2,g3⟩:=Y0 hn1
  obtain⟨t,rfl⟩:=(Aa _ _).1 hp;obtain⟨u,hu⟩:=(Aa _ _).1 (by simpa using hn2)
  have hu':t=58 :: u:=hu;subst hu';simp only[aeK,afu]at h;obtain⟨rfl,rfl⟩:=h
  refine⟨?_,by omega,by omega⟩
  unfold letter;rw[adk (by omega),show kindOf c+4 - 4=kindOf c by omega,g1]
  rfl
 split at h
 ·cases h
 rename_i hn;simp only[aox]at hn;obtain⟨hn1,hn2⟩:=hn;obtain⟨g1,g2,g3⟩:=Y0 hn1
 obtain⟨u,rfl⟩:=(Aa _ _).1 (by simpa using hn2)
 simp only[aeK,afu]at h;obtain⟨rfl,rfl⟩:=h;refine⟨?_,by omega,by omega⟩
 unfold letter;rw[ade (by omega),g1]
 rfl
theorem agZ {v:V} (h:check v=0):1<=v.kind/\v.kind<=8:=by
 unfold check at h
 split at h
 ·cases h
 omega
theorem EO {v:V} (h:check v=0):1<=v.kind/\v.kind<=8/\ ¬Unused v/\v.nums.length<=40/\v.texts.length<=40/\v.text.length<=1000/\kP v.texts=false/\(if v.kind<4 then gJ v.kind v.num else mM (v.kind - 4) v.nums)=0:=by
 have hr:=agZ h;unfold check at h;rw[ade (by omega)]at h
 split at h
 ·cases h
 rename_i hu
 split at h
 ·cases h
 rename_i hl
 split at h
 ·cases h
 rename_i ht;simp only[aox]at ht
 exact⟨hr.1,hr.2,hu,by omega,by omega,by omega,aqR.2 ht.2,h⟩
theorem there {v:V} (h:check v=0) (hn:In64 v.num) (hns: ∀n∈v.nums,In64 n):parse (print v)=(v,0):=by
 obtain⟨h1,h8,hu,-,-,-,-,hw⟩:=EO h
 have hu': ¬(v.num≠0/\3<v.kind)/\ ¬(v.text≠ []/\v.kind≠4)/\ ¬(v.nums≠ []/\(v.kind<5\/v.kind=8))/\ ¬(v.texts≠ []/\v.kind≠8):=by
  unfold Unused at hu;simp only[aox]at hu;exact hu
 obtain⟨u1,u2,u3,u4⟩:=hu'
 have hb:iL v.kind ((if v.kind<4 then gK v.kind v.num else[])++v.text++v.nums.flatMap (iZ (v.kind - 4))++v.texts.flatMap textE)=(v,0):=by
  obtain⟨k,n,t,ns,ts⟩:=v;simp only at h1 h8 hu hw u1 u2 u3 u4 hn hns⊢;unfold iL
  by_cases k4:4<k
  ·have e1:n=0:=by apply Decidable.not_not.1;intro e;exact u1 ⟨e,by omega⟩
   have e2:t=[]:=by apply Decidable.not_not.1;intro e;exact u2 ⟨e,by omega⟩
   subst e1 e2;have e0:(if k<4 then gK k 0 else[])=[]:=ade (by omega)
   rw[adk k4,e0,aex,aex];by_cases k8:k=8
   ·have e3:ns=[]:=by apply Decidable.not_not.1;intro e;exact u3 ⟨e,.inr k8⟩
    subst e3;rw[adk k8,amX,aex,YX _ _ _ (by omega)]
    rfl
   have e4:ts=[]:=by apply Decidable.not_not.1;intro e;exact u4 ⟨e,k8⟩
   subst e4;rw[ade (by omega)]at hw
   rw[ade k8,amX,aey,YW (by omega) (by omega) _ _ _ (by omega) hns hw]
   rfl
  have e3:ns=[]:=by apply Decidable.not_not.1;intro e;exact u3 ⟨e,.inl (by omega)⟩
  have e4:ts=[]:=by apply Decidable.not_not.1;intro e;exact u4 ⟨e,by omega⟩
  subst e3 e4;rw[ade k4,amX,amX,aey,aey];by_cases Fp:k=4
  ·have e1:n=0:=by apply Decidable.not_not.1;intro e;exact u1 ⟨e,by omega⟩
   subst e1 Fp;have e0:(if(4:Int)<4 then gK 4 0 else[])=[]:=ade (by omega)
   rw[adk rfl,e0,aex]
  have e2:t=[]:=by apply Decidable.not_not.1;intro e;exact u2 ⟨e,Fp⟩
  subst e2;have e0:(if k<4 then gK k n else[])=gK k n:=adk (by omega)
  rw[ade Fp,e0,aey];rw[adk (by omega)]at hw
  rw[YR (by omega) (by omega) hn hw]
 have hp:print v=letter v.kind++[58] ++((if v.kind<4 then gK v.kind v.num else[])++v.text++v.nums.flatMap (iZ (v.kind - 4))++v.texts.flatMap textE):=by
  unfold print;simp only[aeG]
 unfold parse;rw[hp,Y4 h1 h8];simp only[hb];rw[ade (by omega),ade (by omega)]
theorem one {s:L} {v:V} (h:parse s=(v,0)):check v=0/\print v=s/\In64 v.num/\ ∀n∈v.nums,In64 n:=by
 unfold parse at h
 split at h
 ·cases h
 rename_i k r hh;obtain⟨hs,h1,h8⟩:=JA hh
 split at h
 ·rename_i hne
  simp only[afu]at h;exact absurd h.2 hne
 rename_i hz
 split at h
 ·rename_i hne
  simp only[afu]at h;exact absurd h.2 hne
 rename_i hc;simp only[afu,arB]at h;have hz':(iL k r).2=0:=by omega
 have hc':check v=0:=by rw[<-h];omega
 refine⟨hc', ?_⟩;clear hc hz hh;unfold iL at h hz';rw[hs];unfold print;by_cases k4:4<k
 ·rw[adk k4]at h hz'
  by_cases k8:k=8
  ·rw[adk k8]at h hz'
   simp only at h hz'
   obtain⟨m,e1,e2⟩:=Tc (r.length+1) r [] (lK (r.length+1) r []).1 (by omega) (by rw[<-hz'])
   rw[aex]at e1;rw[<-h];simp only;rw[e1,ade (by omega),<-e2]
   exact⟨by simp,by unfold In64;omega,by simp⟩
  rw[ade k8]at h hz';simp only at h hz'
  obtain⟨m,e1,e2,e3⟩:=S9 (k:=k - 4) (by omega) (by omega) (r.length+1) r [] (kQ (k - 4) (r.length+1) r []).1 (by omega) (by rw[<-hz'])
  rw[aex]at e1;rw[<-h];simp only;rw[e1,ade (by omega),<-e2]
  exact⟨by simp,by unfold In64;omega,e3⟩
 rw[ade k4]at h hz';by_cases Fp:k=4
 ·rw[adk Fp]at h
  rw[<-h];simp only;rw[ade (by omega),Fp]
  exact⟨by simp,by unfold In64;omega,by simp⟩
 rw[ade Fp]at h hz';simp only at hz'
 obtain⟨g1,g2⟩:=SV (k:=k) (n:=(fZ k r).1) (s:=r) (by omega) (by omega) (by rw[<-hz'])
 rw[<-h];simp only;rw[adk (by omega),g1]
 exact⟨by simp,g2,by simp⟩
end Go.Proofs.YtkdakckjafomhaaGreatDoor.ak
namespace Go.Proofs.YtkdakckjafomhaaGreatDoor.Lex
open Go
abbrev L:=List UInt8
def isLet (c:UInt8):Bool:=(decide (97<=c.toNat) && decide (c.toNat<=122)) ||(decide (65<=c.toNat) && decide (c.toNat<=90)) || decide (c.toNat=95)
def oG (c:UInt8):Bool:=isLet c || Num.bn c
structure Tok where
 kind:Nat
 text:L
 num:Int
 pos:Nat
end Go.Proofs.YtkdakckjafomhaaGreatDoor.Lex
