/- Lemmas. -/
import Derived.Test.YtdijgcnlbfgkdaaGreatDoorUP02
import Derived.Shelf.Spec.TrailingZeros
set_option maxHeartbeats 64000000
set_option maxRecDepth 1000000
set_option linter.all false
namespace Go.Proofs.YtdijgcnlbfgkdaaGreatDoor
open Go.RowKit Go.Proofs.Tryz
def aie (s:ByteArray) (h:0<s.size):s.data.toList.head?=some (s[0]'h):=by
 have:=ar8 s 0 h;rw[aoq,this]
def Pz (l:List UInt8):Lib.trimPrefix l [45]=if l.head?=some 45 then l.drop 1 else l:=by
 unfold Lib.trimPrefix Lib.hasPrefix;cases l with
 |nil=>simp
 |cons c t=>
  simp only[List.isPrefixOf,aoP,afs,afP,af9,afW,ap4,afc];by_cases h:c=45
  ·subst h;simp
  rw[aer (fun e=>h e.symm),aer h]
def PD:List UInt8->Bool
 |[]=>false
 |c :: r=> !(c == 48) &&(c :: r).all Num.aJ
def aif {l:List UInt8} (h:l≠ [48]):Num.isInt l=PD (if l.head?=some 45 then l.drop 1 else l):=by
 unfold Num.isInt;rw[aer h];cases(if l.head?=some 45 then l.drop 1 else l)<;>rfl
def PE {l:List UInt8} {k:Nat} {c:UInt8} (h:(l.take k).all Num.aJ=true) (hc:l[k]?=some c) (hd:Num.aJ c=true):(l.take (k+1)).all Num.aJ=true:=by
 obtain⟨hk,e⟩:=aeK.1 hc;rw[af0 hk,arM,h,e];simp[hd]
def PG {l:List UInt8} {k:Nat} {c:UInt8} (hc:l[k]?=some c) (hd:Num.aJ c=false):l.all Num.aJ=false:=by
 cases h:l.all Num.aJ with
 |false=>rfl
 |true=>
  have:=ahx.1 h c (aew hc);rw[hd]at this;cases this
def aaC (s:ByteArray) (w:World) (hs:s.size<=1073741824):
  Calls prog 142 #[.string s] w fun e w'=>e=.returned (.bool (Num.isInt s.data.toList))/\w=w':=by
 obtain⟨l,hl⟩:=aj s.data.toList;have htp:=(Tryz.strings_TrimPrefix s ⟨#[45]⟩ w).mono fun e w' (h:_/\w'=w)=>(⟨h.1,h.2.symm⟩:_/\w=w')
 have e45:(⟨#[45]⟩:ByteArray).data.toList=[45]:=rfl;rw[e45,Pz,hl]at htp;have hsz:l.length=s.size:=by rw[<-hl,aof]
 rw[hl];by_cases h48:l=[48]
 ·have hb:(s.toList ==[48])=true:=by rw[aod,hl,h48];rfl
  have hr:Num.isInt l=true:=by unfold Num.isInt;rw[aeu h48]
  rw[hr];clear htp hl h48 hr hsz;go_enter func142,ntmps142;go_wp2;go_ret;exact⟨rfl,rfl⟩
 have hb:(s.toList ==[48])=false:=by
  rw[aod,hl];cases h:l ==[48] with
  |false=>rfl
  |true=>exact absurd (eq_of_beq h) h48
 obtain⟨r,hr⟩:=aj (if l.head?=some 45 then l.drop 1 else l)
 have hi:=aif h48;rw[hr]at hi;rw[hr]at htp
 have hrl:r.length<=1073741824:=by
  rw[<-hr]
  split
  ·simp;omega
  omega
 obtain⟨z,hz⟩:=aj (⟨r.toArray⟩:ByteArray);have hzl:z.data.toList=r:=by rw[<-hz]
 have hzs:z.size=r.length:=by rw[<-hz,dR]
 rw[hz]at htp;refine gq4 htp hi hzl hzs fun Wp HI HZ qJ=>?_;clear htp hi hzl hzs hz hr hl h48 hsz;cases r with
 |nil=>
  have hzn:z.toList.isEmpty=true:=by rw[aod,HZ.out];rfl
  have hze:(z.toList ==[])=true:=by rw[aod,HZ.out];rfl
  rw[HI.out]
  show Calls _ _ _ _ fun e w'=>e=.returned (.bool false)/\w=w'
  clear HI;go_enter func142,ntmps142;go_wp2_with fail;refine iq8 Wp ?_;go_wp2;go_ret;exact⟨rfl,rfl⟩
 |cons c t=>
  have hpos:0<z.size:=by rw[qJ.out];simp
  have hz0:z[0]'hpos=c:=by
   have h1:=ar8 z 0 hpos;rw[HZ.out]at h1
   simpa using h1.symm
  have hzn:z.toList.isEmpty=false:=by rw[aod,HZ.out];rfl
  have hze:(z.toList ==[])=false:=by rw[aod,HZ.out];rfl
  rw[HI.out];clear HI;obtain⟨n,hn⟩:=aj z.size;by_cases QI:c=48
  ·have hb0:(((z[0]'hpos).toNat:Int) == 48)=true:=by rw[hz0,QI];rfl
   have hres:PD (c :: t)=false:=by subst QI;rfl
   rw[hres];have HZ0:=ah hz0;clear hz0 hn hres;go_enter func142,ntmps142;go_wp2_with fail;refine iq8 Wp ?_;go_wp2;go_ret;exact⟨rfl,rfl⟩
  have hb0:(((z[0]'hpos).toNat:Int) == 48)=false:=by
   rw[hz0,aek];intro e;exact QI (afC.1 (by show c.toNat=48;omega))
  have hres:PD (c :: t)=(c :: t).all Num.aJ:=by
   unfold PD;simp[QI]
  rw[hres,<-HZ.out];have hzb:z.size<=1073741824:=by rw[qJ.out];exact hrl
  have aZ:=ah hrl;clear hz0 hn hres hrl;go_enter func142,ntmps142;go_wp2_with fail;refine iq8 Wp ?_;go_wp2
  go_loopg [17] z.size (fun g i wr=> ∃k:Nat,k+g=z.size/\i=.int .i64 k/\w=wr/\(z.data.toList.take k).all Num.aJ=true)
  case atStart=>exact⟨0,by omega,rfl,rfl,by simp⟩
  obtain⟨k,hk,rfl,rfl,hall⟩:=hrel;have HK:=ah hk;have HA:=ah hall;clear hk hall;cases gk with
  |zero=>
   have hkz:k=z.size:=by have:=HK.out;omega
   have hfin:z.data.toList.all Num.aJ=true:=by
    have:=HA.out
    rwa [aeG (by rw[hkz,aof];exact aej _)]at this
   have HF:=ah hfin;have hkd:decide (k<z.size)=false:=dF (by omega)
   clear hfin hkz;go_wp2;go_ret;exact⟨by rw[HF.out];rfl,rfl⟩
  |succ g=>
   have hlt:k<z.size:=by have:=HK.out;omega
   have hlt':(k:Int)<z.size:=by omega
   obtain⟨x,hx⟩:=aj (z[k]'hlt);have hget:=ar8 z k hlt;rw[hx]at hget;have HG:=ah hget;by_cases hd:48<=x.toNat/\x.toNat<=57
   ·have t1:decide (((z[k]'hlt).toNat:Int)<48)=false:=by rw[hx];exact dF (by omega)
    have t2:decide (57<((z[k]'hlt).toNat:Int))=false:=by rw[hx];exact dF (by omega)
    have HD:=ah hd;clear hx hget hd;go_wp2
    go_roundg g
    case measure=>omega
    exact⟨k+1,by have:=HK.out;omega,by go_num,rfl,PE HA.out HG.out ((Num.kQ x).2 HD.out)⟩
   have hno:Num.aJ x=false:=by
    cases h:Num.aJ x with
    |false=>rfl
    |true=>exact absurd ((Num.kQ x).1 h) hd
   have Lp:=ah (PG hget hno);clear hget hno;by_cases h48:x.toNat<48
   ·have t1:decide (((z[k]'hlt).toNat:Int)<48)=true:=by rw[hx];exact aei (by omega)
    clear hx hd;go_wp2;go_ret;exact⟨by rw[Lp.out];rfl,rfl⟩
   have t1:decide (((z[k]'hlt).toNat:Int)<48)=false:=by rw[hx];exact dF (by omega)
   have t2:decide (57<((z[k]'hlt).toNat:Int))=true:=by rw[hx];exact aei (by omega)
   clear hx hd;go_wp2;go_ret;exact⟨by rw[Lp.out];rfl,rfl⟩
def Ud (n:Int) (w:World) (h0: -9223372036854775808<=n) (h1:n<=9223372036854775807) (hL:Laid w):
  Calls prog 26 #[.int .i64 n] w fun e w'=>e=.returned (.string ⟨(Lib.itoa n).toArray⟩)/\Below w.heap.size w w':=by
 have H:=ah (aic n w h0 h1 hL);clear hL;go_enter func26,ntmps26;go_wp2_with fail;refine mq8 H fun w1 hb=>?_;have HB:=ah hb;clear hb;go_wp2;go_ret;exact⟨rfl,HB.out⟩
def aii (w:World) (a:Addr):(binOp .neq 80 (.iface 281 (.pointer (some a))) .nilIface).run prog w=.ok (.bool true) w:=by kernel_rfl
def PI (x:Int×Nat) (w:World) (e:Ending) (w':World):Prop:=e=.returned (.tuple #[.int .i64 x.1,.int .i64 x.2])/\Below w.heap.size w w'
def aaD (s:ByteArray) (w:World) (hs:s.size<=1073741824) (hL:Laid w):
  Calls prog 90 #[.string s] w (PI (Num.dM s.data.toList) w):=by
 have hI:=aaC s w hs;cases hi:Num.isInt s.data.toList with
 |false=>
  rw[hi]at hI;rw[Num.Z8 hi];have HI:=ah hI;clear hI hi hL;go_enter func90,ntmps90;go_wp2_with fail;refine iq8 HI ?_;go_wp2
  go_ret2
  exact⟨rfl,aoa _ _⟩
 |true=>
  rw[hi]at hI
  rcases Num.ahD hi with⟨v,h1,h2⟩|⟨h1,h2⟩
  ·rw[h2]
   have hc:=(Tryz.strconv_ParseInt_10_at64_ok s (by omega) v h1 w).mono fun e w' ⟨he,hw⟩=>(⟨he,below_bytesWorld hw⟩:e=Ending.returned (.tuple #[.int .i64 v,.nilIface])/\Below w.heap.size w w')
   have HI:=ah hI;have HC:=ah hc;clear hI hi hL h1 h2 hc;go_enter func90,ntmps90;go_wp2_with fail;refine iq8 HI ?_;go_wp2_with fail;refine mq8 HC fun w1 hb=>?_;have HB:=ah hb;clear hb;go_wp2
   go_ret2
   exact⟨rfl,HB.out⟩
  rw[h2];obtain⟨tp,p,hv⟩:=hL.rng;have hc:=Tryz.strconv_ParseInt_10_at64_range_var s (by omega) h1 tp p w hv
  have HI:=ah hI;have HC:=ah hc;clear hI hi hL h1 h2 hc hv;go_enter func90,ntmps90;go_wp2_with fail;refine iq8 HI ?_;go_wp2_with fail;refine HC.mono ?_;rintro e w1 ⟨N,rfl,-,-,hb⟩;have HB:=ah hb;have hne:=aii;clear hb;go_wp2
  go_ret2
  exact⟨rfl,HB.out⟩
def PK (w:World) (x:Int) (b:UInt8) (h:(b.toNat:Int)=x):
  (convert 76 9 (.slice (some ⟨w.heap.size,0,none⟩) 1 1)).run prog (w.alloc (.cells #[.int .u8 x] 5))=.ok (.string ⟨#[b]⟩) (w.alloc (.cells #[.int .u8 x] 5)):=by
 have:=run_convert_bytes_back (P:=prog) (w.alloc (.cells #[.int .u8 x] 5)) 76 9 5 ⟨w.heap.size,0,none⟩ 1 [b] asK asT asa (fun j hj=>by
  have hj0:j=0:=by simp at hj;omega
  subst hj0
  simp[Addr.add,h])
 exact this
def Dy: ∀k u:Nat,u<10 ^(k+1)->Lib.nDigits u<=k+1
 |0,u,hu=>by rw[atf (by simpa using hu)];omega
 |k+1,u,hu=>by
  by_cases hs:u<10
  ·rw[atf hs];omega
  rw[Lib.nDigits_big hs];have:=Dy k (u / 10) (by rw[af2]at hu;omega)
  omega
def IB (a b:List UInt8):(⟨a.toArray⟩ ++⟨b.toArray⟩:ByteArray)=⟨(a++b).toArray⟩:=by
 apply aho
 simp
def Ue {d:Nat} (h:d<10):((UInt8.ofNat (48+d)).toNat:Int)=48+(d:Int):=by rw[Num.Iy h];omega
def aaE (n:Nat) (w:World) (hn:n<18446744073709551616):
  Calls prog 244 #[.int .u64 n] w fun e w'=>e=.returned (.string ⟨(Lib.decDigits n).toArray⟩)/\Below w.heap.size w w':=by
 have hn':(n:Int)<=18446744073709551615:=by omega
 go_enter func244,ntmps244;go_wp2
 go_loopg [0,3] n (fun g a b wr=> ∃(m:Nat) (acc:List UInt8),m<=g/\m<=n/\a=.int .u64 m/\b=.string ⟨acc.toArray⟩/\Lib.decDigits n=Lib.decDigits m++acc/\Below w.heap.size w wr)
 case atStart=>exact⟨n,[],aej _,aej _,rfl,rfl,by simp,aoa _ _⟩
 obtain⟨m,acc,hm,hmn,rfl,rfl,hacc,hb⟩:=hrel;have HA:=ah hacc;have HB:=ah hb;clear hacc hb
 have hal:acc.length<=20:=by
  have h1:=afL List.length HA.out;rw[aeo,Num.Bg,Num.Bg]at h1;have h2:=Dy 19 n (by omega)
  omega
 by_cases h10:m<10
 ·have hd:decide (10<=(m:Int))=false:=dF (by omega)
  have hm0:(m:Int)<10:=by omega
  obtain⟨b,hbb⟩:=aj (UInt8.ofNat (48+m));have hcv:=fun wx=>PK wx (48+(m:Int)) b (by rw[<-hbb];exact Ue (by omega))
  have hfin:Lib.decDigits n=b :: acc:=by rw[HA.out,asW h10,hbb];rfl
  have HF:=ah hfin;clear hbb hfin;go_wp2;go_ret;exact⟨by rw[HF.out,IB];rfl,(HB.alloc HB.size _)⟩
 have hd:decide (10<=(m:Int))=true:=aei (by omega)
 have hm0:(10:Int)<=m:=by omega
 have hmb:(m:Int)<=18446744073709551615:=by omega
 obtain⟨b,hbb⟩:=aj (UInt8.ofNat (48+m % 10));have hcv:=fun wx=>PK wx (48+(m:Int) % 10) b (by rw[<-hbb,Ue (by omega)];omega)
 have hfin:Lib.decDigits n=Lib.decDigits (m / 10) ++(b :: acc):=by rw[HA.out,Num.Ky h10,hbb,afu];rfl
 have HF:=ah hfin;obtain⟨g,rfl⟩: ∃g,gk=g+1:=⟨gk - 1,by omega⟩
 clear hbb hfin;go_wp2
 go_roundg g
 case measure=>omega
 exact⟨m / 10,b :: acc,by omega,by omega,by go_num,by rw[IB];rfl,HF.out,HB.alloc HB.size _⟩
def Uf {l:List UInt8} (h:l.all Num.aJ=true) (k:Nat):(l.take k).all Num.aJ=true:=
 ahx.2 fun x hx=>ahx.1 h x (aoB hx)
def int_eq' {k:IntKind} {a b:Int} (h:a=b):Value.int k a=Value.int k b:=by rw[h]
def Ug {r:List UInt8} {c:UInt8} (h:r.all Num.aJ=true) (h0:r.head?=some c):c≠48->1<=Num.aX 0 r:=fun hc=>by
 cases r with
 |nil=>cases h0
 |cons x t=>
  simp only[aoP,afs]at h0;subst h0;simp only[anI,afx,Num.kQ]at h;have:=Num.TG t (0*10+(x.toNat - 48));have h2:=Num.Lm.1 hc;rw[Num.uh];omega
def ano (s:ByteArray) (w:World) (hs:s.size<=1073741824) (hpos:0<s.size) (hc:(s[0]'hpos).toNat=45):
  Calls prog 114 #[.string s] w (PI (Num.dM s.data.toList) w):=by
 have anp:(((s[0]'hpos).toNat:Int) == 45)=true:=by rw[afc];omega
 obtain⟨l,hl⟩:=aj s.data.toList;have hsz:l.length=s.size:=by rw[<-hl,aof]
 have hget: ∀(k:Nat) (h:k<s.size),l[k]?=some (s[k]'h):=fun k h=>by rw[<-hl];exact ar8 s k h
 have hd:l.head?=some 45:=by
  rw[aoq,hget 0 hpos];exact afL some (afC.1 hc)
 obtain⟨r,hr⟩:=aj (l.drop 1);have hrl:r.length+1=s.size:=by rw[<-hr,ae1];omega
 have hpi:Num.dM l=if r=[]\/(r.head?=some 48/\1<l.length) then(0,50) else if¬r.all Num.aJ=true then(0,50) else if 19<r.length then(0,51) else
   if 9223372036854775808<Num.aX 0 r then(0,51) else(-(Num.aX 0 r:Int),0):=by
  unfold Num.dM;simp only[hd,anN,hr]
 have hrg: ∀(k:Nat) (h:k+1<s.size),r[k]?=some (s[k+1]'h):=fun k h=>by rw[<-hr,aot,an8];exact hget _ h
 rw[hl,hpi];refine gq3 hrg hrl hsz fun BM aZ bf=>?_;clear hpi hr hd hget hl hrg hsz;by_cases hnil:s.size=1
 ·have hrn:r=[]:=aeI (by omega)
  rw[aeu (.inl hrn)];have hE:((1:Int) == s.size)=true:=by rw[afc];omega
  have hp':(0:Int)<s.size:=by omega
  clear hrl hrn hnil hc;go_enter func114,ntmps114;go_wp2
  go_ret2
  exact⟨rfl,aoa _ _⟩
 have hf:1<s.size:=by omega
 have hE:((1:Int) == s.size)=false:=by rw[aek];omega
 have hp':(0:Int)<s.size:=by omega
 obtain⟨c2,hc2⟩:=aj (s[1]'hf);have hr0:r.head?=some c2:=by rw[aoq,BM.out 0 (by omega),<-hc2]
 have hrn:r≠ []:=fun e=>by rw[e]at hr0;cases hr0
 by_cases hz:c2=48/\1<s.size
 ·rw[aeu (.inr ⟨by rw[hr0,hz.1],by rw[bf.out];exact hz.2⟩)]
  have t1:(((s[1]'hf).toNat:Int) == 48)=true:=by rw[hc2,hz.1];rfl
  have t2:decide (1<(s.size:Int))=true:=aei (by omega)
  have t2':(1:Int)<s.size:=by omega
  clear hrl hrn hr0 hz hc2 hc hnil;go_enter func114,ntmps114;go_wp2
  go_ret2
  exact⟨rfl,aoa _ _⟩
 have hcond: ¬(r=[]\/(r.head?=some 48/\1<l.length)):=by
  rintro(h|⟨h1,h2⟩)
  ·exact hrn h
  rw[hr0]at h1;exact hz ⟨aeM h1,by rw[<-bf.out];exact h2⟩
 rw[aer hcond]
 obtain⟨X,hX⟩: ∃X:Int×Nat,(if¬r.all Num.aJ=true then(0,50) else if 19<r.length then(0,51) else
  if 9223372036854775808<Num.aX 0 r then(0,51) else(-(Num.aX 0 r:Int),0))=X:=⟨_,rfl⟩
 rw[hX];refine gq3 hX hr0 hrn fun HX HR0 fH=>?_;clear hX hrn;have h48:c2≠48:=fun e=>hz ⟨e,by omega⟩
 have t1:(((s[1]'hf).toNat:Int) == 48)=false:=by rw[hc2,aek];intro e;exact h48 (afC.1 (by show c2.toNat=48;omega))
 have hLE:=hp';clear hrl hr0 hz hc2 hcond hc hnil;go_enter func114,ntmps114;go_wp2
 go_loopg [5] (s.size - 1) (fun g i wr=> ∃k:Nat,k+g=s.size/\1<=k/\i=.int .i64 k/\w=wr/\(r.take (k - 1)).all Num.aJ=true)
 case atStart=>exact⟨1,by omega,by omega,rfl,rfl,by simp⟩
 obtain⟨k,hk,fV,rfl,rfl,hall⟩:=hrel;have HK:=ah hk;have HA:=ah hall;clear hk hall;cases gk with
 |zero=>
  have hkz:k=s.size:=by have:=HK.out;omega
  have hfin:r.all Num.aJ=true:=by
   have:=HA.out
   rwa [aeG (by have:=aZ.out;omega)]at this
  have HF:=ah hfin;have hx:=HX.out;rw[aer (by rw[hfin];simp)]at hx
  have gV:=ah hx;have hkd:decide (k<s.size)=false:=dF (by omega)
  clear hfin hkz HA HX hx;by_cases qK:19<r.length
  ·have hx:=gV.out
   rw[aeu qK]at hx;have rM:=ah hx;have h19:(19:Int)<(s.size:Int) - 1:=by have:=aZ.out;omega
   clear hx gV qK;go_wp2
   go_ret2
   rw[<-rM.out];exact⟨rfl,aoa _ _⟩
  have hx:=gV.out;rw[aer qK]at hx;have rM:=ah hx;have h19:(s.size:Int) - 1<=19:=by have:=aZ.out;omega
  have Ef:=ah qK;clear hx gV qK;go_wp2;clear fV HK hkd
  go_loopg [6,7] (s.size - 1) (fun g a i wr=> ∃k:Nat,k+g=s.size/\1<=k/\i=.int .i64 k/\a=.int .u64 (Num.aX 0 (r.take (k - 1)))/\w=wr)
  case atStart=>exact⟨1,by omega,by omega,rfl,by simp[Num.xW],rfl⟩
  obtain⟨k,hk,fV,rfl,rfl,rfl⟩:=hrel;have HK:=ah hk;clear hk;have hpre:(r.take (k - 1)).all Num.aJ=true:=Uf HF.out _;have hvl:=Num.Fp (r.take (k - 1)) 0 hpre;have Eh:(r.take (k - 1)).length<=k - 1:=ao4 _ _;cases gk with
  |zero=>
   have hkz:k=s.size:=by have:=HK.out;omega
   have htk:r.take (k - 1)=r:=aeG (by have:=aZ.out;omega)
   have hvb:=Num.TJ HF.out Ef.out;rw[htk];have hx:=rM.out;have hv1:=Ug HF.out HR0.out;obtain⟨v,hv⟩:=aj (Num.aX 0 r);rw[hv]at hvb hx⊢;rw[hv]at hv1;have hkd:decide (k<s.size)=false:=dF (by omega)
   clear hv hkz htk hpre hvl Eh rM;have aqE:1<=v:=hv1 h48;clear hv1;by_cases hov:9223372036854775808<v
   ·rw[aeu hov]at hx
    have uG:=ah hx;have hd:decide ((9223372036854775808:Int)<v)=true:=aei (by omega)
    have hd':(9223372036854775808:Int)<v:=by omega
    clear hx hov;go_wp2
    go_ret2
    rw[<-uG.out];exact⟨rfl,aoa _ _⟩
   rw[aer hov]at hx;have uG:=ah hx;have hd:decide ((9223372036854775808:Int)<v)=false:=dF (by omega)
   have hd':(v:Int)<=9223372036854775808:=by omega
   have e1:IntKind.u64.wrap (-(v:Int))=18446744073709551616 - v:=by rw[asZ];omega
   have e2:wrap64 (18446744073709551616 -(v:Int))= -(v:Int):=by unfold wrap64;omega
   clear hx hov;go_wp2
   go_ret2
   rw[<-uG.out];refine⟨?_,aoa _ _⟩
   show Ending.returned (.tuple #[.int .i64 (wrap64 (18446744073709551616 -(v:Int))),.int .i64 0])=_
   rw[e2];rfl
  |succ g=>
   have hlt:k<s.size:=by have:=HK.out;omega
   have hlt':(k:Int)<s.size:=by omega
   have hk1:k - 1+1=k:=by omega
   have nJ:=BM.out (k - 1) (by omega)
   obtain⟨x,hx⟩:=aj (s[k]'hlt);have hget:r[k - 1]?=some x:=by rw[nJ,<-hx];first|done|(congr 1;done)|(congr 1;simp only[hk1])
   have kY:=(Num.kQ x).1 (ahx.1 HF.out x (aew hget))
   have hnext:Num.aX 0 (r.take (k+1 - 1))=Num.aX 0 (r.take (k - 1))*10+(x.toNat - 48):=by
    obtain⟨hk2,e⟩:=aeK.1 hget;rw[show k+1 - 1=(k - 1)+1 by omega,af0 hk2,Num.Iw,e]
    rfl
   have Lr:10 ^(r.take (k - 1)).length<=10 ^ 18:=afT (by decide) (by have:=Ef.out;have:=aZ.out;omega)
   obtain⟨v,hv⟩:=aj (Num.aX 0 (r.take (k - 1)));rw[hv]at hnext hvl⊢
   have hvb:(v:Int)<=999999999999999999:=by
    have h1:(0+1)*10 ^(r.take (k - 1)).length=10 ^(r.take (k - 1)).length:=by omega
    have h2:(10:Nat) ^ 18=1000000000000000000:=by decide
    omega
   have hv0:(0:Int)<=v:=by omega
   have ael:(48:Int)<=((s[k]'hlt).toNat:Int):=by rw[hx];omega
   have aem:((s[k]'hlt).toNat:Int)<=57:=by rw[hx];omega
   have HN:=ah hnext;have wX:=ah hx;clear hv hvl Eh hpre hget nJ hnext Lr hk1 hx kY;go_wp2
   go_roundg g
   case measure=>omega
   exact⟨k+1,by have:=HK.out;omega,by omega,by go_num,by rw[HN.out,<-wX.out];exact int_eq' (by omega),rfl⟩
 |succ g=>
  have hlt:k<s.size:=by have:=HK.out;omega
  have hlt':(k:Int)<s.size:=by omega
  have hk1:k - 1+1=k:=by omega
  have nJ:=BM.out (k - 1) (by omega)
  obtain⟨x,hx⟩:=aj (s[k]'hlt);have hget:r[k - 1]?=some x:=by rw[nJ,<-hx];first|done|(congr 1;done)|(congr 1;simp only[hk1])
  have HG:=ah hget;by_cases hd:48<=x.toNat/\x.toNat<=57
  ·have t1:decide (((s[k]'hlt).toNat:Int)<48)=false:=by rw[hx];exact dF (by omega)
   have t2:decide (57<((s[k]'hlt).toNat:Int))=false:=by rw[hx];exact dF (by omega)
   have HD:=ah hd;clear hx hget nJ hd hk1;go_wp2
   go_roundg g
   case measure=>omega
   exact⟨k+1,by have:=HK.out;omega,by omega,by go_num,rfl,by rw[show k+1 - 1=(k - 1)+1 by omega];exact PE HA.out HG.out ((Num.kQ x).2 HD.out)⟩
  have hno:Num.aJ x=false:=by
   cases h:Num.aJ x with
   |false=>rfl
   |true=>exact absurd ((Num.kQ x).1 h) hd
  have yA:=HX.out;rw[aeu (by rw[PG hget hno];simp)]at yA
  have Ei:=ah yA;clear hget nJ hno HX yA hk1;by_cases h48:x.toNat<48
  ·have t1:decide (((s[k]'hlt).toNat:Int)<48)=true:=by rw[hx];exact aei (by omega)
   clear hx hd;go_wp2
   go_ret2
   rw[<-Ei.out];exact⟨rfl,aoa _ _⟩
  have t1:decide (((s[k]'hlt).toNat:Int)<48)=false:=by rw[hx];exact dF (by omega)
  have t2:decide (57<((s[k]'hlt).toNat:Int))=true:=by rw[hx];exact aei (by omega)
  clear hx hd;go_wp2
  go_ret2
  rw[<-Ei.out];exact⟨rfl,aoa _ _⟩
def anq (s:ByteArray) (w:World) (hs:s.size<=1073741824) (hpos:0<s.size) (hc:(s[0]'hpos).toNat≠45):
  Calls prog 114 #[.string s] w (PI (Num.dM s.data.toList) w):=by
 have anp:(((s[0]'hpos).toNat:Int) == 45)=false:=by rw[aek];omega
 obtain⟨l,hl⟩:=aj s.data.toList;have hsz:l.length=s.size:=by rw[<-hl,aof]
 have hget: ∀(k:Nat) (h:k<s.size),l[k]?=some (s[k]'h):=fun k h=>by rw[<-hl];exact ar8 s k h
 have hd:l.head?≠some 45:=by
  rw[aoq,hget 0 hpos];intro e;apply hc;rw[aeM e];rfl
 obtain⟨r,hr⟩:=aj (l.drop 0);have hrl:r.length+0=s.size:=by rw[<-hr,ae1];omega
 have hpi:Num.dM l=if r=[]\/(r.head?=some 48/\1<l.length) then(0,50) else if¬r.all Num.aJ=true then(0,50) else if 19<r.length then(0,51) else
   if 9223372036854775808<=Num.aX 0 r then(0,51) else((Num.aX 0 r:Int),0):=by
  unfold Num.dM;simp only[aer hd];rw[<-hr,afW]
 have hrg: ∀(k:Nat) (h:k+0<s.size),r[k]?=some (s[k+0]'h):=fun k h=>by rw[<-hr,aot,an8];exact hget _ h
 rw[hl,hpi];refine gq3 hrg hrl hsz fun BM aZ bf=>?_;clear hpi hr hd hget hl hrg hsz;by_cases hnil:s.size=0
 ·have hrn:r=[]:=aeI (by omega)
  rw[aeu (.inl hrn)];have hE:((0:Int) == s.size)=true:=by rw[afc];omega
  have hp':(0:Int)<s.size:=by omega
  clear hrl hrn hnil hc;go_enter func114,ntmps114;go_wp2
  go_ret2
  exact⟨rfl,aoa _ _⟩
 have hf:0<s.size:=by omega
 have hE:((0:Int) == s.size)=false:=by rw[aek];omega
 have hp':(0:Int)<s.size:=by omega
 obtain⟨c2,hc2⟩:=aj (s[0]'hf);have hr0:r.head?=some c2:=by rw[aoq,BM.out 0 (by omega),<-hc2]
 have hrn:r≠ []:=fun e=>by rw[e]at hr0;cases hr0
 by_cases hz:c2=48/\1<s.size
 ·rw[aeu (.inr ⟨by rw[hr0,hz.1],by rw[bf.out];exact hz.2⟩)]
  have t1:(((s[0]'hf).toNat:Int) == 48)=true:=by rw[hc2,hz.1];rfl
  have t2:decide (1<(s.size:Int))=true:=aei (by omega)
  have t2':(1:Int)<s.size:=by omega
  clear hrl hrn hr0 hz hc2 hc hnil;go_enter func114,ntmps114;go_wp2
  go_ret2
  exact⟨rfl,aoa _ _⟩
 have hcond: ¬(r=[]\/(r.head?=some 48/\1<l.length)):=by
  rintro(h|⟨h1,h2⟩)
  ·exact hrn h
  rw[hr0]at h1;exact hz ⟨aeM h1,by rw[<-bf.out];exact h2⟩
 rw[aer hcond]
 obtain⟨X,hX⟩: ∃X:Int×Nat,(if¬r.all Num.aJ=true then(0,50) else if 19<r.length then(0,51) else
  if 9223372036854775808<=Num.aX 0 r then(0,51) else((Num.aX 0 r:Int),0))=X:=⟨_,rfl⟩
 rw[hX];refine gq3 hX hr0 hrn fun HX HR0 fH=>?_;clear hX hrn;by_cases h48:c2=48
 ·have hs1:s.size=1:=by
   have: ¬1<s.size:=fun h=>hz ⟨h48,h⟩
   omega
  have t1:(((s[0]'hf).toNat:Int) == 48)=true:=by rw[hc2,h48];rfl
  have t2:decide (1<(s.size:Int))=false:=dF (by omega)
  have t2':(s.size:Int)<=1:=by omega
  clear hs1;have hLE:=hp';clear hrl hr0 hz hc2 hcond hc hnil;go_enter func114,ntmps114;go_wp2
  go_loopg [5] (s.size - 0) (fun g i wr=> ∃k:Nat,k+g=s.size/\0<=k/\i=.int .i64 k/\w=wr/\(r.take (k - 0)).all Num.aJ=true)
  case atStart=>exact⟨0,by omega,by omega,rfl,rfl,by simp⟩
  obtain⟨k,hk,fV,rfl,rfl,hall⟩:=hrel;have HK:=ah hk;have HA:=ah hall;clear hk hall;cases gk with
  |zero=>
   have hkz:k=s.size:=by have:=HK.out;omega
   have hfin:r.all Num.aJ=true:=by
    have:=HA.out
    rwa [aeG (by have:=aZ.out;omega)]at this
   have HF:=ah hfin;have hx:=HX.out;rw[aer (by rw[hfin];simp)]at hx
   have gV:=ah hx;have hkd:decide (k<s.size)=false:=dF (by omega)
   clear hfin hkz HA HX hx;by_cases qK:19<r.length
   ·have hx:=gV.out
    rw[aeu qK]at hx;have rM:=ah hx;have h19:(19:Int)<(s.size:Int):=by have:=aZ.out;omega
    clear hx gV qK;go_wp2
    go_ret2
    rw[<-rM.out];exact⟨rfl,aoa _ _⟩
   have hx:=gV.out;rw[aer qK]at hx;have rM:=ah hx;have h19:(s.size:Int)<=19:=by have:=aZ.out;omega
   have Ef:=ah qK;clear hx gV qK;go_wp2;clear fV HK hkd
   go_loopg [6,7] (s.size - 0) (fun g a i wr=> ∃k:Nat,k+g=s.size/\0<=k/\i=.int .i64 k/\a=.int .u64 (Num.aX 0 (r.take (k - 0)))/\w=wr)
   case atStart=>exact⟨0,by omega,by omega,rfl,by simp[Num.xW],rfl⟩
   obtain⟨k,hk,fV,rfl,rfl,rfl⟩:=hrel;have HK:=ah hk;clear hk;have hpre:(r.take (k - 0)).all Num.aJ=true:=Uf HF.out _;have hvl:=Num.Fp (r.take (k - 0)) 0 hpre;have Eh:(r.take (k - 0)).length<=k - 0:=ao4 _ _;cases gk with
   |zero=>
    have hkz:k=s.size:=by have:=HK.out;omega
    have htk:r.take (k - 0)=r:=aeG (by have:=aZ.out;omega)
    have hvb:=Num.TJ HF.out Ef.out;rw[htk];have hx:=rM.out;have hv1:=Ug HF.out HR0.out;obtain⟨v,hv⟩:=aj (Num.aX 0 r);rw[hv]at hvb hx⊢;rw[hv]at hv1;have hkd:decide (k<s.size)=false:=dF (by omega)
    clear hv hkz htk hpre hvl Eh rM;clear hv1;by_cases hov:9223372036854775808<=v
    ·rw[aeu hov]at hx
     have uG:=ah hx;have hd:decide ((9223372036854775808:Int)<=v)=true:=aei (by omega)
     have hd':(9223372036854775808:Int)<=v:=by omega
     clear hx hov;go_wp2
     go_ret2
     rw[<-uG.out];exact⟨rfl,aoa _ _⟩
    rw[aer hov]at hx;have uG:=ah hx;have hd:decide ((9223372036854775808:Int)<=v)=false:=dF (by omega)
    have hd':(v:Int)<=9223372036854775807:=by omega
    have hd0:(0:Int)<=v:=by omega
    clear hx hov;go_wp2
    go_ret2
    rw[<-uG.out];exact⟨rfl,aoa _ _⟩
   |succ g=>
    have hlt:k<s.size:=by have:=HK.out;omega
    have hlt':(k:Int)<s.size:=by omega
    have hk1:k - 0+0=k:=by omega
    have nJ:=BM.out (k - 0) (by omega)
    obtain⟨x,hx⟩:=aj (s[k]'hlt);have hget:r[k - 0]?=some x:=by rw[nJ,<-hx];first|done|(congr 1;done)|(congr 1;simp only[hk1])
    have kY:=(Num.kQ x).1 (ahx.1 HF.out x (aew hget))
    have hnext:Num.aX 0 (r.take (k+1 - 0))=Num.aX 0 (r.take (k - 0))*10+(x.toNat - 48):=by
     obtain⟨hk2,e⟩:=aeK.1 hget;rw[show k+1 - 0=(k - 0)+1 by omega,af0 hk2,Num.Iw,e]
     rfl
    have Lr:10 ^(r.take (k - 0)).length<=10 ^ 18:=afT (by decide) (by have:=Ef.out;have:=aZ.out;omega)
    obtain⟨v,hv⟩:=aj (Num.aX 0 (r.take (k - 0)));rw[hv]at hnext hvl⊢
    have hvb:(v:Int)<=999999999999999999:=by
     have h1:(0+1)*10 ^(r.take (k - 0)).length=10 ^(r.take (k - 0)).length:=by omega
     have h2:(10:Nat) ^ 18=1000000000000000000:=by decide
     omega
    have hv0:(0:Int)<=v:=by omega
    have ael:(48:Int)<=((s[k]'hlt).toNat:Int):=by rw[hx];omega
    have aem:((s[k]'hlt).toNat:Int)<=57:=by rw[hx];omega
    have HN:=ah hnext;have wX:=ah hx;clear hv hvl Eh hpre hget nJ hnext Lr hk1 hx kY;go_wp2
    go_roundg g
    case measure=>omega
    exact⟨k+1,by have:=HK.out;omega,by omega,by go_num,by rw[HN.out,<-wX.out];exact int_eq' (by omega),rfl⟩
  |succ g=>
   have hlt:k<s.size:=by have:=HK.out;omega
   have hlt':(k:Int)<s.size:=by omega
   have hk1:k - 0+0=k:=by omega
   have nJ:=BM.out (k - 0) (by omega)
   obtain⟨x,hx⟩:=aj (s[k]'hlt);have hget:r[k - 0]?=some x:=by rw[nJ,<-hx];first|done|(congr 1;done)|(congr 1;simp only[hk1])
   have HG:=ah hget;by_cases hd:48<=x.toNat/\x.toNat<=57
   ·have t1:decide (((s[k]'hlt).toNat:Int)<48)=false:=by rw[hx];exact dF (by omega)
    have t2:decide (57<((s[k]'hlt).toNat:Int))=false:=by rw[hx];exact dF (by omega)
    have HD:=ah hd;clear hx hget nJ hd hk1;go_wp2
    go_roundg g
    case measure=>omega
    exact⟨k+1,by have:=HK.out;omega,by omega,by go_num,rfl,by rw[show k+1 - 0=(k - 0)+1 by omega];exact PE HA.out HG.out ((Num.kQ x).2 HD.out)⟩
   have hno:Num.aJ x=false:=by
    cases h:Num.aJ x with
    |false=>rfl
    |true=>exact absurd ((Num.kQ x).1 h) hd
   have yA:=HX.out;rw[aeu (by rw[PG hget hno];simp)]at yA
   have Ei:=ah yA;clear hget nJ hno HX yA hk1;by_cases h48:x.toNat<48
   ·have t1:decide (((s[k]'hlt).toNat:Int)<48)=true:=by rw[hx];exact aei (by omega)
    clear hx hd;go_wp2
    go_ret2
    rw[<-Ei.out];exact⟨rfl,aoa _ _⟩
   have t1:decide (((s[k]'hlt).toNat:Int)<48)=false:=by rw[hx];exact dF (by omega)
   have t2:decide (57<((s[k]'hlt).toNat:Int))=true:=by rw[hx];exact aei (by omega)
   clear hx hd;go_wp2
   go_ret2
   rw[<-Ei.out];exact⟨rfl,aoa _ _⟩
 have t1:(((s[0]'hf).toNat:Int) == 48)=false:=by rw[hc2,aek];intro e;exact h48 (afC.1 (by show c2.toNat=48;omega))
 have hLE:=hp';clear hrl hr0 hz hc2 hcond hc hnil;go_enter func114,ntmps114;go_wp2
 go_loopg [5] (s.size - 0) (fun g i wr=> ∃k:Nat,k+g=s.size/\0<=k/\i=.int .i64 k/\w=wr/\(r.take (k - 0)).all Num.aJ=true)
 case atStart=>exact⟨0,by omega,by omega,rfl,rfl,by simp⟩
 obtain⟨k,hk,fV,rfl,rfl,hall⟩:=hrel;have HK:=ah hk;have HA:=ah hall;clear hk hall;cases gk with
 |zero=>
  have hkz:k=s.size:=by have:=HK.out;omega
  have hfin:r.all Num.aJ=true:=by
   have:=HA.out
   rwa [aeG (by have:=aZ.out;omega)]at this
  have HF:=ah hfin;have hx:=HX.out;rw[aer (by rw[hfin];simp)]at hx
  have gV:=ah hx;have hkd:decide (k<s.size)=false:=dF (by omega)
  clear hfin hkz HA HX hx;by_cases qK:19<r.length
  ·have hx:=gV.out
   rw[aeu qK]at hx;have rM:=ah hx;have h19:(19:Int)<(s.size:Int):=by have:=aZ.out;omega
   clear hx gV qK;go_wp2
   go_ret2
   rw[<-rM.out];exact⟨rfl,aoa _ _⟩
  have hx:=gV.out;rw[aer qK]at hx;have rM:=ah hx;have h19:(s.size:Int)<=19:=by have:=aZ.out;omega
  have Ef:=ah qK;clear hx gV qK;go_wp2;clear fV HK hkd
  go_loopg [6,7] (s.size - 0) (fun g a i wr=> ∃k:Nat,k+g=s.size/\0<=k/\i=.int .i64 k/\a=.int .u64 (Num.aX 0 (r.take (k - 0)))/\w=wr)
  case atStart=>exact⟨0,by omega,by omega,rfl,by simp[Num.xW],rfl⟩
  obtain⟨k,hk,fV,rfl,rfl,rfl⟩:=hrel;have HK:=ah hk;clear hk;have hpre:(r.take (k - 0)).all Num.aJ=true:=Uf HF.out _;have hvl:=Num.Fp (r.take (k - 0)) 0 hpre;have Eh:(r.take (k - 0)).length<=k - 0:=ao4 _ _;cases gk with
  |zero=>
   have hkz:k=s.size:=by have:=HK.out;omega
   have htk:r.take (k - 0)=r:=aeG (by have:=aZ.out;omega)
   have hvb:=Num.TJ HF.out Ef.out;rw[htk];have hx:=rM.out;have hv1:=Ug HF.out HR0.out;obtain⟨v,hv⟩:=aj (Num.aX 0 r);rw[hv]at hvb hx⊢;rw[hv]at hv1;have hkd:decide (k<s.size)=false:=dF (by omega)
   clear hv hkz htk hpre hvl Eh rM;clear hv1;by_cases hov:9223372036854775808<=v
   ·rw[aeu hov]at hx
    have uG:=ah hx;have hd:decide ((9223372036854775808:Int)<=v)=true:=aei (by omega)
    have hd':(9223372036854775808:Int)<=v:=by omega
    clear hx hov;go_wp2
    go_ret2
    rw[<-uG.out];exact⟨rfl,aoa _ _⟩
   rw[aer hov]at hx;have uG:=ah hx;have hd:decide ((9223372036854775808:Int)<=v)=false:=dF (by omega)
   have hd':(v:Int)<=9223372036854775807:=by omega
   have hd0:(0:Int)<=v:=by omega
   clear hx hov;go_wp2
   go_ret2
   rw[<-uG.out];exact⟨rfl,aoa _ _⟩
  |succ g=>
   have hlt:k<s.size:=by have:=HK.out;omega
   have hlt':(k:Int)<s.size:=by omega
   have hk1:k - 0+0=k:=by omega
   have nJ:=BM.out (k - 0) (by omega)
   obtain⟨x,hx⟩:=aj (s[k]'hlt);have hget:r[k - 0]?=some x:=by rw[nJ,<-hx];first|done|(congr 1;done)|(congr 1;simp only[hk1])
   have kY:=(Num.kQ x).1 (ahx.1 HF.out x (aew hget))
   have hnext:Num.aX 0 (r.take (k+1 - 0))=Num.aX 0 (r.take (k - 0))*10+(x.toNat - 48):=by
    obtain⟨hk2,e⟩:=aeK.1 hget;rw[show k+1 - 0=(k - 0)+1 by omega,af0 hk2,Num.Iw,e]
    rfl
   have Lr:10 ^(r.take (k - 0)).length<=10 ^ 18:=afT (by decide) (by have:=Ef.out;have:=aZ.out;omega)
   obtain⟨v,hv⟩:=aj (Num.aX 0 (r.take (k - 0)));rw[hv]at hnext hvl⊢
   have hvb:(v:Int)<=999999999999999999:=by
    have h1:(0+1)*10 ^(r.take (k - 0)).length=10 ^(r.take (k - 0)).length:=by omega
    have h2:(10:Nat) ^ 18=1000000000000000000:=by decide
    omega
   have hv0:(0:Int)<=v:=by omega
   have ael:(48:Int)<=((s[k]'hlt).toNat:Int):=by rw[hx];omega
   have aem:((s[k]'hlt).toNat:Int)<=57:=by rw[hx];omega
   have HN:=ah hnext;have wX:=ah hx;clear hv hvl Eh hpre hget nJ hnext Lr hk1 hx kY;go_wp2
   go_roundg g
   case measure=>omega
   exact⟨k+1,by have:=HK.out;omega,by omega,by go_num,by rw[HN.out,<-wX.out];exact int_eq' (by omega),rfl⟩
 |succ g=>
  have hlt:k<s.size:=by have:=HK.out;omega
  have hlt':(k:Int)<s.size:=by omega
  have hk1:k - 0+0=k:=by omega
  have nJ:=BM.out (k - 0) (by omega)
  obtain⟨x,hx⟩:=aj (s[k]'hlt);have hget:r[k - 0]?=some x:=by rw[nJ,<-hx];first|done|(congr 1;done)|(congr 1;simp only[hk1])
  have HG:=ah hget;by_cases hd:48<=x.toNat/\x.toNat<=57
  ·have t1:decide (((s[k]'hlt).toNat:Int)<48)=false:=by rw[hx];exact dF (by omega)
   have t2:decide (57<((s[k]'hlt).toNat:Int))=false:=by rw[hx];exact dF (by omega)
   have HD:=ah hd;clear hx hget nJ hd hk1;go_wp2
   go_roundg g
   case measure=>omega
   exact⟨k+1,by have:=HK.out;omega,by omega,by go_num,rfl,by rw[show k+1 - 0=(k - 0)+1 by omega];exact PE HA.out HG.out ((Num.kQ x).2 HD.out)⟩
  have hno:Num.aJ x=false:=by
   cases h:Num.aJ x with
   |false=>rfl
   |true=>exact absurd ((Num.kQ x).1 h) hd
  have yA:=HX.out;rw[aeu (by rw[PG hget hno];simp)]at yA
  have Ei:=ah yA;clear hget nJ hno HX yA hk1;by_cases h48:x.toNat<48
  ·have t1:decide (((s[k]'hlt).toNat:Int)<48)=true:=by rw[hx];exact aei (by omega)
   clear hx hd;go_wp2
   go_ret2
   rw[<-Ei.out];exact⟨rfl,aoa _ _⟩
  have t1:decide (((s[k]'hlt).toNat:Int)<48)=false:=by rw[hx];exact dF (by omega)
  have t2:decide (57<((s[k]'hlt).toNat:Int))=true:=by rw[hx];exact aei (by omega)
  clear hx hd;go_wp2
  go_ret2
  rw[<-Ei.out];exact⟨rfl,aoa _ _⟩
def aaF (s:ByteArray) (w:World) (hs:s.size<=1073741824):
  Calls prog 114 #[.string s] w (PI (Num.dM s.data.toList) w):=by
 by_cases hpos:0<s.size
 ·by_cases hc:(s[0]'hpos).toNat=45
  ·exact ano s w hs hpos hc
  exact anq s w hs hpos hc
 have hl:s.data.toList=[]:=aeI (by rw[<-aof];omega)
 have hz:s.size=0:=by omega
 have hE:((0:Int) == s.size)=true:=by rw[hz];rfl
 rw[hl,show Num.dM []=(0,50) from by decide]
 have hd:(s.size:Int)<=0:=by omega
 have HZ:=ah hz;clear hz hl;go_enter func114,ntmps114;go_wp2
 go_ret2
 exact⟨rfl,aoa _ _⟩
def aij {w:World} {n:String} {g:Nat} {cs:Array Value} (hg:prog.globalNamed n=some g) (h:w.var? prog n=some cs) (i:Nat):w.cell? ⟨g,i,none⟩=cs[i]?:=by
 unfold World.var? at h;rw[hg]at h;simp only[aoH]at h
 split at h
 ·rename_i h2
  cases h;simp[World.cell?,h2]
 cases h
def aaG (x:Nat) (hx0:x≠0) (hx:x<18446744073709551616) (w:World) (hL:Laid w):
  Calls prog 227 #[.int .u64 x] w fun e w'=>e=.returned (.int .i64 (Lib.ctz 64 x))/\w=w':=by
 obtain⟨hlow,hk⟩:=Lib.lowest_bit 64 x hx0 hx;obtain⟨hi,htab⟩:=Lib.deBruijn64_at _ hk;obtain⟨cs,h1,h2⟩:=hL.bru;have hcell:=(aij Uc h1 _).trans (h2 _ hi);rw[htab]at hcell;have key:=tz64_key x _ hx hx0 hlow;obtain⟨idx,hidx⟩:=aj (2 ^ Lib.ctz 64 x*285870213051353865 % 18446744073709551616 / 288230376151711744);rw[hidx]at key hcell hi;obtain⟨k,hkk⟩:=aj (Lib.ctz 64 x);rw[hkk]at hcell hk⊢;have hne:((x:Int) == 0)=false:=by rw[aek];omega
 clear hlow htab h1 h2 hidx hkk hL;go_enter func227,ntmps227;go_wp2_with (simp only[key]);go_ret;exact⟨rfl,rfl⟩
def aik (n k:Nat) (w:World) (hn:n<18446744073709551616) (hk:k<=16):
  Calls prog 243 #[.int .u64 n,.int .i64 k] w fun e w'=>e=.returned (.string ⟨(Num.hexN k n).toArray⟩)/\Below w.heap.size w w':=by
 go_enter func243,ntmps243;go_wp2
 go_loopg [0,5,6] k (fun g a b i wr=> ∃(j m:Nat) (acc:List UInt8),j+g=k/\m<18446744073709551616/\acc.length=j/\a=.int .u64 m/\b=.string ⟨acc.toArray⟩/\i=.int .i64 j/\Num.hexN k n=Num.hexN g m++acc/\Below w.heap.size w wr)
 case atStart=>exact⟨0,n,[],by omega,hn,rfl,rfl,rfl,rfl,by simp,aoa _ _⟩
 obtain⟨j,m,acc,hj,hm,hl,rfl,rfl,rfl,hacc,hb⟩:=hrel;refine gq3 hj hacc hb fun HJ HA HB=>?_;have hal:acc.length<=16:=by omega
 have fZ:=ah hl;clear hj hacc hb hl;cases gk with
 |zero=>
  obtain rfl:k=j:=by have:=HJ.out;omega
  have hd:decide (k<k)=false:=dF (by omega)
  have ha:=HA.out;rw[Num.hexN,agJ]at ha;have HF:=ah ha;clear ha HA;go_wp2;go_ret;exact⟨by rw[HF.out];rfl,HB.out⟩
 |succ g=>
  have hlt:j<k:=by have:=HJ.out;omega
  have hlt':(j:Int)<k:=by omega
  have hmb:(m:Int)<=18446744073709551615:=by omega
  have hm0:(0:Int)<=m:=by omega
  have hstep:Num.hexN (g+1) m=Num.hexN g (m / 16)++[Num.vk (m % 16)]:=rfl;obtain⟨b,hbb⟩:=aj (Num.vk (m % 16));have hfin:Num.hexN k n=Num.hexN g (m / 16) ++(b :: acc):=by rw[HA.out,hstep,hbb,afu];rfl
  have HF:=ah hfin;by_cases h9:m % 16<10
  ·have hbv:(b.toNat:Int)=48+(m:Int) % 16:=by
    rw[<-hbb];unfold Num.vk;rw[aeu h9,Ue h9];omega
   have hcv:=fun wx=>PK wx (48+(m:Int) % 16) b hbv
   have h9':(m:Int) % 16<=9:=by omega
   clear hbb hfin hstep hbv h9;go_wp2
   go_roundg g
   case measure=>omega
   exact⟨j+1,m / 16,b :: acc,by have:=HJ.out;omega,by omega,by simp[fZ.out],by go_num,by rw[IB];rfl,by go_num,HF.out,HB.alloc HB.size _⟩
  have hbv:(b.toNat:Int)=97+(m:Int) % 16 - 10:=by
   rw[<-hbb];unfold Num.vk;rw[aer h9];have:(UInt8.ofNat (87+m % 16)).toNat=87+m % 16:=by simp;omega
   rw[this];omega
  have hcv:=fun wx=>PK wx (97+(m:Int) % 16 - 10) b hbv
  have h9':(9:Int)<(m:Int) % 16:=by omega
  clear hbb hfin hstep hbv h9;go_wp2
  go_roundg g
  case measure=>omega
  exact⟨j+1,m / 16,b :: acc,by have:=HJ.out;omega,by omega,by simp[fZ.out],by go_num,by rw[IB];rfl,by go_num,HF.out,HB.alloc HB.size _⟩
end Go.Proofs.YtdijgcnlbfgkdaaGreatDoor
