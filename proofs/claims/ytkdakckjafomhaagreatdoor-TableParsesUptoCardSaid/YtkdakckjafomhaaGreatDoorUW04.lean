/- Contracts and plain laws,part 4. -/
import Derived.Test.YtkdakckjafomhaaGreatDoorUW03
import Derived.Shelf.Spec.TrailingZeros
set_option maxHeartbeats 64000000
set_option maxRecDepth 1000000
set_option linter.all false
namespace Go.Proofs.YtkdakckjafomhaaGreatDoor
open Go.RowKit
theorem ahg (s:ByteArray) (h:0<s.size):s.data.toList.head?=some (s[0]'h):=by
 have:=Lib.data_getElem? s 0 h;rw[anI,this]
theorem Ti (l:List UInt8):Lib.trimPrefix l [45]=if l.head?=some 45 then l.drop 1 else l:=by
 unfold Lib.trimPrefix Lib.hasPrefix;cases l with
 |nil=>simp
 |cons c t=>
  simp only[List.isPrefixOf,aoi,aeK,aeM,af9,afA,apM,aeI];by_cases h:c=45
  ·subst h;simp
  rw[ade (fun e=>h e.symm),ade h]
def OG:List UInt8->Bool
 |[]=>false
 |c :: r=> !(c == 48) &&(c :: r).all Num.bn
theorem ahh {l:List UInt8} (h:l≠ [48]):Num.isInt l=OG (if l.head?=some 45 then l.drop 1 else l):=by
 unfold Num.isInt;rw[ade h];cases(if l.head?=some 45 then l.drop 1 else l)<;>rfl
theorem OH {l:List UInt8} {k:Nat} {c:UInt8} (h:(l.take k).all Num.bn=true) (hc:l[k]?=some c) (hd:Num.bn c=true):(l.take (k+1)).all Num.bn=true:=by
 obtain⟨hk,e⟩:=adw.1 hc;rw[afC hk,aqj,h,e];simp[hd]
theorem OI {l:List UInt8} {k:Nat} {c:UInt8} (hc:l[k]?=some c) (hd:Num.bn c=false):l.all Num.bn=false:=by
 cases h:l.all Num.bn with
 |false=>rfl
 |true=>
  have:=afF.1 h c (adI hc);rw[hd]at this;cases this
theorem Y8 (s:ByteArray) (w:World) (hs:s.size<=1073741824):
  Calls Tryz.prog 117 #[.string s] w fun e w'=>e=.returned (.bool (Num.isInt s.data.toList))/\w=w':=by
 obtain⟨l,hl⟩:=aj s.data.toList
 have htp:=(Tryz.strings_TrimPrefix s ⟨#[45]⟩ w).mono fun e w' (h:_/\w'=w)=>(⟨h.1,h.2.symm⟩:_/\w=w')
 have e45:(⟨#[45]⟩:ByteArray).data.toList=[45]:=rfl;rw[e45,Ti,hl]at htp
 have hsz:l.length=s.size:=by rw[<-hl,Lib.size_eq]
 rw[hl];by_cases h48:l=[48]
 ·have hb:(s.toList ==[48])=true:=by rw[Lib.toList_data,hl,h48];rfl
  have hr:Num.isInt l=true:=by unfold Num.isInt;rw[adk h48]
  rw[hr];clear htp hl h48 hr hsz;go_enter Tryz.func117,Tryz.ntmps117;go_wp2;go_ret
  exact⟨rfl,rfl⟩
 have hb:(s.toList ==[48])=false:=by
  rw[Lib.toList_data,hl];cases h:l ==[48] with
  |false=>rfl
  |true=>exact absurd (eq_of_beq h) h48
 obtain⟨r,hr⟩:=aj (if l.head?=some 45 then l.drop 1 else l)
 have hi:=ahh h48;rw[hr]at hi;rw[hr]at htp
 have hrl:r.length<=1073741824:=by
  rw[<-hr]
  split
  ·simp;omega
  omega
 obtain⟨z,hz⟩:=aj (⟨r.toArray⟩:ByteArray);have hzl:z.data.toList=r:=by rw[<-hz]
 have hzs:z.size=r.length:=by rw[<-hz,gq]
 rw[hz]at htp;have Vk:=ah htp;have HI:=ah hi;have HZ:=ah hzl;have nV:=ah hzs
 clear htp hi hzl hzs hz hr hl h48 hsz;cases r with
 |nil=>
  have hzn:z.toList.isEmpty=true:=by rw[Lib.toList_data,HZ.out];rfl
  have hze:(z.toList ==[])=true:=by rw[Lib.toList_data,HZ.out];rfl
  rw[HI.out]
  show Calls _ _ _ _ fun e w'=>e=.returned (.bool false)/\w=w'
  clear HI;go_enter Tryz.func117,Tryz.ntmps117;go_wp2_with fail;refine Vk.mono ?_
  rintro e w' ⟨rfl,rfl⟩;go_wp2;go_ret;exact⟨rfl,rfl⟩
 |cons c t=>
  have hpos:0<z.size:=by rw[nV.out];simp
  have hz0:z[0]'hpos=c:=by
   have h1:=Lib.data_getElem? z 0 hpos;rw[HZ.out]at h1
   simpa using h1.symm
  have hzn:z.toList.isEmpty=false:=by rw[Lib.toList_data,HZ.out];rfl
  have hze:(z.toList ==[])=false:=by rw[Lib.toList_data,HZ.out];rfl
  rw[HI.out];clear HI;obtain⟨n,hn⟩:=aj z.size;by_cases Qm:c=48
  ·have hb0:(((z[0]'hpos).toNat:Int) == 48)=true:=by rw[hz0,Qm];rfl
   have hres:OG (c :: t)=false:=by subst Qm;rfl
   rw[hres];have HZ0:=ah hz0;clear hz0 hn hres;go_enter Tryz.func117,Tryz.ntmps117
   go_wp2_with fail;refine Vk.mono ?_;rintro e w' ⟨rfl,rfl⟩;go_wp2;go_ret;exact⟨rfl,rfl⟩
  have hb0:(((z[0]'hpos).toNat:Int) == 48)=false:=by
   rw[hz0,adh];intro e;exact Qm (afi.1 (by show c.toNat=48;omega))
  have hres:OG (c :: t)=(c :: t).all Num.bn:=by
   unfold OG;simp[Qm]
  rw[hres,<-HZ.out];have hzb:z.size<=1073741824:=by rw[nV.out];exact hrl
  have aO:=ah hrl;clear hz0 hn hres hrl;go_enter Tryz.func117,Tryz.ntmps117
  go_wp2_with fail;refine Vk.mono ?_;rintro e w' ⟨rfl,rfl⟩;go_wp2
  go_loopg [17] z.size (fun g i wr=> ∃k:Nat,k+g=z.size/\i=.int .i64 k/\w=wr/\(z.data.toList.take k).all Num.bn=true)
  case atStart=>exact⟨0,by omega,rfl,rfl,by simp⟩
  obtain⟨k,hk,rfl,rfl,hall⟩:=hrel;have HK:=ah hk;have HA:=ah hall;clear hk hall
  cases gk with
  |zero=>
   have hkz:k=z.size:=by have:=HK.out;omega
   have hfin:z.data.toList.all Num.bn=true:=by
    have:=HA.out
    rwa [ado (by rw[hkz,Lib.size_eq];exact ac4 _)]at this
   have HF:=ah hfin;have hkd:decide (k<z.size)=false:=ac5 (by omega)
   clear hfin hkz;go_wp2;go_ret;exact⟨by rw[HF.out];rfl,rfl⟩
  |succ g=>
   have hlt:k<z.size:=by have:=HK.out;omega
   have hlt':(k:Int)<z.size:=by omega
   obtain⟨x,hx⟩:=aj (z[k]'hlt);have hget:=Lib.data_getElem? z k hlt;rw[hx]at hget
   have HG:=ah hget;by_cases hd:48<=x.toNat/\x.toNat<=57
   ·have t1:decide (((z[k]'hlt).toNat:Int)<48)=false:=by rw[hx];exact ac5 (by omega)
    have t2:decide (57<((z[k]'hlt).toNat:Int))=false:=by rw[hx];exact ac5 (by omega)
    have HD:=ah hd;clear hx hget hd;go_wp2
    go_roundg g
    case measure=>omega
    exact⟨k+1,by have:=HK.out;omega,by go_num,rfl,OH HA.out HG.out ((Num.jX x).2 HD.out)⟩
   have hno:Num.bn x=false:=by
    cases h:Num.bn x with
    |false=>rfl
    |true=>exact absurd ((Num.jX x).1 h) hd
   have HNO:=ah (OI hget hno);clear hget hno;by_cases h48:x.toNat<48
   ·have t1:decide (((z[k]'hlt).toNat:Int)<48)=true:=by rw[hx];exact adb (by omega)
    clear hx hd;go_wp2;go_ret;exact⟨by rw[HNO.out];rfl,rfl⟩
   have t1:decide (((z[k]'hlt).toNat:Int)<48)=false:=by rw[hx];exact ac5 (by omega)
   have t2:decide (57<((z[k]'hlt).toNat:Int))=true:=by rw[hx];exact adb (by omega)
   clear hx hd;go_wp2;go_ret;exact⟨by rw[HNO.out];rfl,rfl⟩
theorem Y9 (n:Int) (w:World) (h0: -9223372036854775808<=n) (h1:n<=9223372036854775807) (hL:Laid w):
  Calls Tryz.prog 63 #[.int .i64 n] w fun e w'=>e=.returned (.string ⟨(Lib.itoa n).toArray⟩)/\Below w.heap.size w w':=by
 have H:=ah (ahf n w h0 h1 hL);clear hL;go_enter Tryz.func63,Tryz.ntmps63;go_wp2_with fail
 refine H.out.mono ?_;rintro e w1 ⟨rfl,hb⟩;have HB:=ah hb;clear hb;go_wp2;go_ret
 exact⟨rfl,HB.out⟩
theorem ahi (w:World) (a:Addr):(binOp .neq 129 (.iface 262 (.pointer (some a))) .nilIface).run Tryz.prog w=.ok (.bool true) w:=by kernel_rfl
def OJ (x:Int×Nat) (w:World) (e:Ending) (w':World):Prop:=e=.returned (.tuple #[.int .i64 x.1,.int .i64 x.2])/\Below w.heap.size w w'
theorem Za (s:ByteArray) (w:World) (hs:s.size<=1073741824) (hL:Laid w):
  Calls Tryz.prog 75 #[.string s] w (OJ (Num.iK s.data.toList) w):=by
 have hI:=Y8 s w hs;cases hi:Num.isInt s.data.toList with
 |false=>
  rw[hi]at hI;rw[Num.Yu hi];have HI:=ah hI;clear hI hi hL
  go_enter Tryz.func75,Tryz.ntmps75;go_wp2_with fail;refine HI.mono ?_
  rintro e w' ⟨rfl,rfl⟩;go_wp2
  go_ret2
  exact⟨rfl,Below.refl _ _⟩
 |true=>
  rw[hi]at hI
  rcases Num.ags hi with⟨v,h1,h2⟩|⟨h1,h2⟩
  ·rw[h2]
   have hc:=(Tryz.strconv_ParseInt_10_at64_ok s (by omega) v h1 w).mono fun e w' ⟨he,hw⟩=>(⟨he,below_bytesWorld hw⟩:e=Ending.returned (.tuple #[.int .i64 v,.nilIface])/\Below w.heap.size w w')
   have HI:=ah hI;have HC:=ah hc;clear hI hi hL h1 h2 hc;go_enter Tryz.func75,Tryz.ntmps75
   go_wp2_with fail;refine HI.mono ?_;rintro e w' ⟨rfl,rfl⟩;go_wp2_with fail
   refine HC.mono ?_;rintro e w1 ⟨rfl,hb⟩;have HB:=ah hb;clear hb;go_wp2
   go_ret2
   exact⟨rfl,HB.out⟩
  rw[h2];obtain⟨tp,p,hv⟩:=hL.rng
  have hc:=Tryz.strconv_ParseInt_10_at64_range_var s (by omega) h1 tp p w hv
  have HI:=ah hI;have HC:=ah hc;clear hI hi hL h1 h2 hc hv
  go_enter Tryz.func75,Tryz.ntmps75;go_wp2_with fail;refine HI.mono ?_
  rintro e w' ⟨rfl,rfl⟩;go_wp2_with fail;refine HC.mono ?_;rintro e w1 ⟨N,rfl,-,-,hb⟩
  have HB:=ah hb;have hne:=ahi;clear hb;go_wp2
  go_ret2
  exact⟨rfl,HB.out⟩
theorem OL (w:World) (x:Int) (b:UInt8) (h:(b.toNat:Int)=x):
  (convert 124 9 (.slice (some ⟨w.heap.size,0,none⟩) 1 1)).run Tryz.prog (w.alloc (.cells #[.int .u8 x] 5))=.ok (.string ⟨#[b]⟩) (w.alloc (.cells #[.int .u8 x] 5)):=by
 have:=run_convert_bytes_back (P:=Tryz.prog) (w.alloc (.cells #[.int .u8 x] 5)) 124 9 5 ⟨w.heap.size,0,none⟩ 1 [b] Tryz.underlying124 Tryz.underlying5 Tryz.underlying9 (fun j hj=>by
  have hj0:j=0:=by simp at hj;omega
  subst hj0
  simp[Addr.add,h])
 exact this
theorem CW: ∀k u:Nat,u<10 ^(k+1)->Lib.nDigits u<=k+1
 |0,u,hu=>by rw[Lib.nDigits_small (by simpa using hu)];omega
 |k+1,u,hu=>by
  by_cases hs:u<10
  ·rw[Lib.nDigits_small hs];omega
  rw[Lib.nDigits_big hs];have:=CW k (u / 10) (by rw[afk]at hu;omega)
  omega
theorem Ii (a b:List UInt8):(⟨a.toArray⟩ ++⟨b.toArray⟩:ByteArray)=⟨(a++b).toArray⟩:=by
 apply afJ
 simp
theorem Tj {d:Nat} (h:d<10):((UInt8.ofNat (48+d)).toNat:Int)=48+(d:Int):=by rw[Num.Ib h];omega
theorem Zb (n:Nat) (w:World) (hn:n<18446744073709551616):
  Calls Tryz.prog 246 #[.int .u64 n] w fun e w'=>e=.returned (.string ⟨(Lib.decDigits n).toArray⟩)/\Below w.heap.size w w':=by
 have hn':(n:Int)<=18446744073709551615:=by omega
 go_enter Tryz.func246,Tryz.ntmps246;go_wp2
 go_loopg [0,3] n (fun g a b wr=> ∃(m:Nat) (acc:List UInt8),m<=g/\m<=n/\a=.int .u64 m/\b=.string ⟨acc.toArray⟩/\Lib.decDigits n=Lib.decDigits m++acc/\Below w.heap.size w wr)
 case atStart=>exact⟨n,[],ac4 _,ac4 _,rfl,rfl,by simp,Below.refl _ _⟩
 obtain⟨m,acc,hm,hmn,rfl,rfl,hacc,hb⟩:=hrel;have HA:=ah hacc;have HB:=ah hb;clear hacc hb
 have hal:acc.length<=20:=by
  have h1:=aeH List.length HA.out;rw[adf,Num.zX,Num.zX]at h1;have h2:=CW 19 n (by omega)
  omega
 by_cases h10:m<10
 ·have hd:decide (10<=(m:Int))=false:=ac5 (by omega)
  have hm0:(m:Int)<10:=by omega
  obtain⟨b,hbb⟩:=aj (UInt8.ofNat (48+m))
  have hcv:=fun wx=>OL wx (48+(m:Int)) b (by rw[<-hbb];exact Tj (by omega))
  have hfin:Lib.decDigits n=b :: acc:=by rw[HA.out,Lib.decDigits_one h10,hbb];rfl
  have HF:=ah hfin;clear hbb hfin;go_wp2;go_ret
  exact⟨by rw[HF.out,Ii];rfl,(HB.alloc HB.size _)⟩
 have hd:decide (10<=(m:Int))=true:=adb (by omega)
 have hm0:(10:Int)<=m:=by omega
 have hmb:(m:Int)<=18446744073709551615:=by omega
 obtain⟨b,hbb⟩:=aj (UInt8.ofNat (48+m % 10))
 have hcv:=fun wx=>OL wx (48+(m:Int) % 10) b (by rw[<-hbb,Tj (by omega)];omega)
 have hfin:Lib.decDigits n=Lib.decDigits (m / 10) ++(b :: acc):=by rw[HA.out,Num.Jw h10,hbb,aeG];rfl
 have HF:=ah hfin;obtain⟨g,rfl⟩: ∃g,gk=g+1:=⟨gk - 1,by omega⟩
 clear hbb hfin;go_wp2
 go_roundg g
 case measure=>omega
 exact⟨m / 10,b :: acc,by omega,by omega,by go_num,by rw[Ii];rfl,HF.out,HB.alloc HB.size _⟩
theorem Tn {l:List UInt8} (h:l.all Num.bn=true) (k:Nat):(l.take k).all Num.bn=true:=
 afF.2 fun x hx=>afF.1 h x (anU hx)
theorem int_eq' {k:IntKind} {a b:Int} (h:a=b):Value.int k a=Value.int k b:=by rw[h]
theorem Tq {r:List UInt8} {c:UInt8} (h:r.all Num.bn=true) (h0:r.head?=some c):c≠48->1<=Num.aQ 0 r:=fun hc=>by
 cases r with
 |nil=>cases h0
 |cons x t=>
  simp only[aoi,aeK]at h0;subst h0;simp only[am1,aeW,Num.jX]at h
  have:=Num.Sm t (0*10+(x.toNat - 48));have h2:=Num.Ku.1 hc;rw[Num.rQ];omega
theorem amI (s:ByteArray) (w:World) (hs:s.size<=1073741824) (hpos:0<s.size) (hc:(s[0]'hpos).toNat=45):
  Calls Tryz.prog 91 #[.string s] w (OJ (Num.iK s.data.toList) w):=by
 have amJ:(((s[0]'hpos).toNat:Int) == 45)=true:=by rw[aeI];omega
 obtain⟨l,hl⟩:=aj s.data.toList;have hsz:l.length=s.size:=by rw[<-hl,Lib.size_eq]
 have hget: ∀(k:Nat) (h:k<s.size),l[k]?=some (s[k]'h):=fun k h=>by rw[<-hl];exact Lib.data_getElem? s k h
 have hd:l.head?=some 45:=by
  rw[anI,hget 0 hpos];exact aeH some (afi.1 hc)
 obtain⟨r,hr⟩:=aj (l.drop 1);have hrl:r.length+1=s.size:=by rw[<-hr,aej];omega
 have hpi:Num.iK l=if r=[]\/(r.head?=some 48/\1<l.length) then(0,50) else if¬r.all Num.bn=true then(0,50) else if 19<r.length then(0,51) else
   if 9223372036854775808<Num.aQ 0 r then(0,51) else(-(Num.aQ 0 r:Int),0):=by
  unfold Num.iK;simp only[hd,aoH,hr]
 have hrg: ∀(k:Nat) (h:k+1<s.size),r[k]?=some (s[k+1]'h):=fun k h=>by rw[<-hr,agh,anc];exact hget _ h
 rw[hl,hpi];have Am:=ah hrg;have aO:=ah hrl;have fF:=ah hsz
 clear hpi hr hd hget hl hrg hsz;by_cases hnil:s.size=1
 ·have hrn:r=[]:=adB (by omega)
  rw[adk (.inl hrn)];have hE:((1:Int) == s.size)=true:=by rw[aeI];omega
  have hp':(0:Int)<s.size:=by omega
  clear hrl hrn hnil hc;go_enter Tryz.func91,Tryz.ntmps91;go_wp2
  go_ret2
  exact⟨rfl,Below.refl _ _⟩
 have hf:1<s.size:=by omega
 have hE:((1:Int) == s.size)=false:=by rw[adh];omega
 have hp':(0:Int)<s.size:=by omega
 obtain⟨c2,hc2⟩:=aj (s[1]'hf)
 have hr0:r.head?=some c2:=by rw[anI,Am.out 0 (by omega),<-hc2]
 have hrn:r≠ []:=fun e=>by rw[e]at hr0;cases hr0
 by_cases hz:c2=48/\1<s.size
 ·rw[adk (.inr ⟨by rw[hr0,hz.1],by rw[fF.out];exact hz.2⟩)]
  have t1:(((s[1]'hf).toNat:Int) == 48)=true:=by rw[hc2,hz.1];rfl
  have t2:decide (1<(s.size:Int))=true:=adb (by omega)
  have t2':(1:Int)<s.size:=by omega
  clear hrl hrn hr0 hz hc2 hc hnil;go_enter Tryz.func91,Tryz.ntmps91;go_wp2
  go_ret2
  exact⟨rfl,Below.refl _ _⟩
 have hcond: ¬(r=[]\/(r.head?=some 48/\1<l.length)):=by
  rintro(h|⟨h1,h2⟩)
  ·exact hrn h
  rw[hr0]at h1;exact hz ⟨ad4 h1,by rw[<-fF.out];exact h2⟩
 rw[ade hcond]
 obtain⟨X,hX⟩: ∃X:Int×Nat,(if¬r.all Num.bn=true then(0,50) else if 19<r.length then(0,51) else
  if 9223372036854775808<Num.aQ 0 r then(0,51) else(-(Num.aQ 0 r:Int),0))=X:=⟨_,rfl⟩
 rw[hX];have HX:=ah hX;have HR0:=ah hr0;have fP:=ah hrn;clear hX hrn
 have h48:c2≠48:=fun e=>hz ⟨e,by omega⟩
 have t1:(((s[1]'hf).toNat:Int) == 48)=false:=by rw[hc2,adh];intro e;exact h48 (afi.1 (by show c2.toNat=48;omega))
 have hLE:=hp';clear hrl hr0 hz hc2 hcond hc hnil;go_enter Tryz.func91,Tryz.ntmps91;go_wp2
 go_loopg [5] (s.size - 1) (fun g i wr=> ∃k:Nat,k+g=s.size/\1<=k/\i=.int .i64 k/\w=wr/\(r.take (k - 1)).all Num.bn=true)
 case atStart=>exact⟨1,by omega,by omega,rfl,rfl,by simp⟩
 obtain⟨k,hk,wY,rfl,rfl,hall⟩:=hrel;have HK:=ah hk;have HA:=ah hall;clear hk hall
 cases gk with
 |zero=>
  have hkz:k=s.size:=by have:=HK.out;omega
  have hfin:r.all Num.bn=true:=by
   have:=HA.out
   rwa [ado (by have:=aO.out;omega)]at this
  have HF:=ah hfin;have hx:=HX.out;rw[ade (by rw[hfin];simp)]at hx
  have jg:=ah hx;have hkd:decide (k<s.size)=false:=ac5 (by omega)
  clear hfin hkz HA HX hx;by_cases oP:19<r.length
  ·have hx:=jg.out
   rw[adk oP]at hx;have pX:=ah hx
   have h19:(19:Int)<(s.size:Int) - 1:=by have:=aO.out;omega
   clear hx jg oP;go_wp2
   go_ret2
   rw[<-pX.out];exact⟨rfl,Below.refl _ _⟩
  have hx:=jg.out;rw[ade oP]at hx;have pX:=ah hx
  have h19:(s.size:Int) - 1<=19:=by have:=aO.out;omega
  have Dv:=ah oP;clear hx jg oP;go_wp2;clear wY HK hkd
  go_loopg [6,7] (s.size - 1) (fun g a i wr=> ∃k:Nat,k+g=s.size/\1<=k/\i=.int .i64 k/\a=.int .u64 (Num.aQ 0 (r.take (k - 1)))/\w=wr)
  case atStart=>exact⟨1,by omega,by omega,rfl,by simp[Num.wM],rfl⟩
  obtain⟨k,hk,wY,rfl,rfl,rfl⟩:=hrel;have HK:=ah hk;clear hk
  have hpre:(r.take (k - 1)).all Num.bn=true:=Tn HF.out _
  have hvl:=Num.EI (r.take (k - 1)) 0 hpre;have Dw:(r.take (k - 1)).length<=k - 1:=aoM _ _
  cases gk with
  |zero=>
   have hkz:k=s.size:=by have:=HK.out;omega
   have htk:r.take (k - 1)=r:=ado (by have:=aO.out;omega)
   have hvb:=Num.Sv HF.out Dv.out;rw[htk];have hx:=pX.out;have hv1:=Tq HF.out HR0.out
   obtain⟨v,hv⟩:=aj (Num.aQ 0 r);rw[hv]at hvb hx⊢;rw[hv]at hv1
   have hkd:decide (k<s.size)=false:=ac5 (by omega)
   clear hv hkz htk hpre hvl Dw pX;have apg:1<=v:=hv1 h48;clear hv1
   by_cases hov:9223372036854775808<v
   ·rw[adk hov]at hx
    have sG:=ah hx;have hd:decide ((9223372036854775808:Int)<v)=true:=adb (by omega)
    have hd':(9223372036854775808:Int)<v:=by omega
    clear hx hov;go_wp2
    go_ret2
    rw[<-sG.out];exact⟨rfl,Below.refl _ _⟩
   rw[ade hov]at hx;have sG:=ah hx
   have hd:decide ((9223372036854775808:Int)<v)=false:=ac5 (by omega)
   have hd':(v:Int)<=9223372036854775808:=by omega
   have e1:IntKind.u64.wrap (-(v:Int))=18446744073709551616 - v:=by rw[IntKind.wrap_u64];omega
   have e2:wrap64 (18446744073709551616 -(v:Int))= -(v:Int):=by unfold wrap64;omega
   clear hx hov;go_wp2
   go_ret2
   rw[<-sG.out];refine⟨?_,Below.refl _ _⟩
   show Ending.returned (.tuple #[.int .i64 (wrap64 (18446744073709551616 -(v:Int))),.int .i64 0])=_
   rw[e2];rfl
  |succ g=>
   have hlt:k<s.size:=by have:=HK.out;omega
   have hlt':(k:Int)<s.size:=by omega
   have hk1:k - 1+1=k:=by omega
   have lW:=Am.out (k - 1) (by omega)
   obtain⟨x,hx⟩:=aj (s[k]'hlt)
   have hget:r[k - 1]?=some x:=by rw[lW,<-hx];first|done|(congr 1;done)|(congr 1;simp only[hk1])
   have oQ:=(Num.jX x).1 (afF.1 HF.out x (adI hget))
   have hnext:Num.aQ 0 (r.take (k+1 - 1))=Num.aQ 0 (r.take (k - 1))*10+(x.toNat - 48):=by
    obtain⟨hk2,e⟩:=adw.1 hget;rw[show k+1 - 1=(k - 1)+1 by omega,afC hk2,Num.Ia,e]
    rfl
   have Kv:10 ^(r.take (k - 1)).length<=10 ^ 18:=afa (by decide) (by have:=Dv.out;have:=aO.out;omega)
   obtain⟨v,hv⟩:=aj (Num.aQ 0 (r.take (k - 1)));rw[hv]at hnext hvl⊢
   have hvb:(v:Int)<=999999999999999999:=by
    have h1:(0+1)*10 ^(r.take (k - 1)).length=10 ^(r.take (k - 1)).length:=by omega
    have h2:(10:Nat) ^ 18=1000000000000000000:=by decide
    omega
   have hv0:(0:Int)<=v:=by omega
   have ac7:(48:Int)<=((s[k]'hlt).toNat:Int):=by rw[hx];omega
   have ac8:((s[k]'hlt).toNat:Int)<=57:=by rw[hx];omega
   have HN:=ah hnext;have IU:=ah hx;clear hv hvl Dw hpre hget lW hnext Kv hk1 hx oQ;go_wp2
   go_roundg g
   case measure=>omega
   exact⟨k+1,by have:=HK.out;omega,by omega,by go_num,by rw[HN.out,<-IU.out];exact int_eq' (by omega),rfl⟩
 |succ g=>
  have hlt:k<s.size:=by have:=HK.out;omega
  have hlt':(k:Int)<s.size:=by omega
  have hk1:k - 1+1=k:=by omega
  have lW:=Am.out (k - 1) (by omega)
  obtain⟨x,hx⟩:=aj (s[k]'hlt)
  have hget:r[k - 1]?=some x:=by rw[lW,<-hx];first|done|(congr 1;done)|(congr 1;simp only[hk1])
  have HG:=ah hget;by_cases hd:48<=x.toNat/\x.toNat<=57
  ·have t1:decide (((s[k]'hlt).toNat:Int)<48)=false:=by rw[hx];exact ac5 (by omega)
   have t2:decide (57<((s[k]'hlt).toNat:Int))=false:=by rw[hx];exact ac5 (by omega)
   have HD:=ah hd;clear hx hget lW hd hk1;go_wp2
   go_roundg g
   case measure=>omega
   exact⟨k+1,by have:=HK.out;omega,by omega,by go_num,rfl,by rw[show k+1 - 1=(k - 1)+1 by omega];exact OH HA.out HG.out ((Num.jX x).2 HD.out)⟩
  have hno:Num.bn x=false:=by
   cases h:Num.bn x with
   |false=>rfl
   |true=>exact absurd ((Num.jX x).1 h) hd
  have wZ:=HX.out;rw[adk (by rw[OI hget hno];simp)]at wZ
  have Dx:=ah wZ;clear hget lW hno HX wZ hk1;by_cases h48:x.toNat<48
  ·have t1:decide (((s[k]'hlt).toNat:Int)<48)=true:=by rw[hx];exact adb (by omega)
   clear hx hd;go_wp2
   go_ret2
   rw[<-Dx.out];exact⟨rfl,Below.refl _ _⟩
  have t1:decide (((s[k]'hlt).toNat:Int)<48)=false:=by rw[hx];exact ac5 (by omega)
  have t2:decide (57<((s[k]'hlt).toNat:Int))=true:=by rw[hx];exact adb (by omega)
  clear hx hd;go_wp2
  go_ret2
  rw[<-Dx.out];exact⟨rfl,Below.refl _ _⟩
theorem amK (s:ByteArray) (w:World) (hs:s.size<=1073741824) (hpos:0<s.size) (hc:(s[0]'hpos).toNat≠45):
  Calls Tryz.prog 91 #[.string s] w (OJ (Num.iK s.data.toList) w):=by
 have amJ:(((s[0]'hpos).toNat:Int) == 45)=false:=by rw[adh];omega
 obtain⟨l,hl⟩:=aj s.data.toList;have hsz:l.length=s.size:=by rw[<-hl,Lib.size_eq]
 have hget: ∀(k:Nat) (h:k<s.size),l[k]?=some (s[k]'h):=fun k h=>by rw[<-hl];exact Lib.data_getElem? s k h
 have hd:l.head?≠some 45:=by
  rw[anI,hget 0 hpos];intro e;apply hc;rw[ad4 e];rfl
 obtain⟨r,hr⟩:=aj (l.drop 0);have hrl:r.length+0=s.size:=by rw[<-hr,aej];omega
 have hpi:Num.iK l=if r=[]\/(r.head?=some 48/\1<l.length) then(0,50) else if¬r.all Num.bn=true then(0,50) else if 19<r.length then(0,51) else
   if 9223372036854775808<=Num.aQ 0 r then(0,51) else((Num.aQ 0 r:Int),0):=by
  unfold Num.iK;simp only[ade hd];rw[<-hr,afA]
 have hrg: ∀(k:Nat) (h:k+0<s.size),r[k]?=some (s[k+0]'h):=fun k h=>by rw[<-hr,agh,anc];exact hget _ h
 rw[hl,hpi];have Am:=ah hrg;have aO:=ah hrl;have fF:=ah hsz
 clear hpi hr hd hget hl hrg hsz;by_cases hnil:s.size=0
 ·have hrn:r=[]:=adB (by omega)
  rw[adk (.inl hrn)];have hE:((0:Int) == s.size)=true:=by rw[aeI];omega
  have hp':(0:Int)<s.size:=by omega
  clear hrl hrn hnil hc;go_enter Tryz.func91,Tryz.ntmps91;go_wp2
  go_ret2
  exact⟨rfl,Below.refl _ _⟩
 have hf:0<s.size:=by omega
 have hE:((0:Int) == s.size)=false:=by rw[adh];omega
 have hp':(0:Int)<s.size:=by omega
 obtain⟨c2,hc2⟩:=aj (s[0]'hf)
 have hr0:r.head?=some c2:=by rw[anI,Am.out 0 (by omega),<-hc2]
 have hrn:r≠ []:=fun e=>by rw[e]at hr0;cases hr0
 by_cases hz:c2=48/\1<s.size
 ·rw[adk (.inr ⟨by rw[hr0,hz.1],by rw[fF.out];exact hz.2⟩)]
  have t1:(((s[0]'hf).toNat:Int) == 48)=true:=by rw[hc2,hz.1];rfl
  have t2:decide (1<(s.size:Int))=true:=adb (by omega)
  have t2':(1:Int)<s.size:=by omega
  clear hrl hrn hr0 hz hc2 hc hnil;go_enter Tryz.func91,Tryz.ntmps91;go_wp2
  go_ret2
  exact⟨rfl,Below.refl _ _⟩
 have hcond: ¬(r=[]\/(r.head?=some 48/\1<l.length)):=by
  rintro(h|⟨h1,h2⟩)
  ·exact hrn h
  rw[hr0]at h1;exact hz ⟨ad4 h1,by rw[<-fF.out];exact h2⟩
 rw[ade hcond]
 obtain⟨X,hX⟩: ∃X:Int×Nat,(if¬r.all Num.bn=true then(0,50) else if 19<r.length then(0,51) else
  if 9223372036854775808<=Num.aQ 0 r then(0,51) else((Num.aQ 0 r:Int),0))=X:=⟨_,rfl⟩
 rw[hX];have HX:=ah hX;have HR0:=ah hr0;have fP:=ah hrn;clear hX hrn;by_cases h48:c2=48
 ·have hs1:s.size=1:=by
   have: ¬1<s.size:=fun h=>hz ⟨h48,h⟩
   omega
  have t1:(((s[0]'hf).toNat:Int) == 48)=true:=by rw[hc2,h48];rfl
  have t2:decide (1<(s.size:Int))=false:=ac5 (by omega)
  have t2':(s.size:Int)<=1:=by omega
  clear hs1;have hLE:=hp';clear hrl hr0 hz hc2 hcond hc hnil
  go_enter Tryz.func91,Tryz.ntmps91;go_wp2
  go_loopg [5] (s.size - 0) (fun g i wr=> ∃k:Nat,k+g=s.size/\0<=k/\i=.int .i64 k/\w=wr/\(r.take (k - 0)).all Num.bn=true)
  case atStart=>exact⟨0,by omega,by omega,rfl,rfl,by simp⟩
  obtain⟨k,hk,wY,rfl,rfl,hall⟩:=hrel;have HK:=ah hk;have HA:=ah hall;clear hk hall
  cases gk with
  |zero=>
   have hkz:k=s.size:=by have:=HK.out;omega
   have hfin:r.all Num.bn=true:=by
    have:=HA.out
    rwa [ado (by have:=aO.out;omega)]at this
   have HF:=ah hfin;have hx:=HX.out;rw[ade (by rw[hfin];simp)]at hx
   have jg:=ah hx;have hkd:decide (k<s.size)=false:=ac5 (by omega)
   clear hfin hkz HA HX hx;by_cases oP:19<r.length
   ·have hx:=jg.out
    rw[adk oP]at hx;have pX:=ah hx;have h19:(19:Int)<(s.size:Int):=by have:=aO.out;omega
    clear hx jg oP;go_wp2
    go_ret2
    rw[<-pX.out];exact⟨rfl,Below.refl _ _⟩
   have hx:=jg.out;rw[ade oP]at hx;have pX:=ah hx
   have h19:(s.size:Int)<=19:=by have:=aO.out;omega
   have Dv:=ah oP;clear hx jg oP;go_wp2;clear wY HK hkd
   go_loopg [6,7] (s.size - 0) (fun g a i wr=> ∃k:Nat,k+g=s.size/\0<=k/\i=.int .i64 k/\a=.int .u64 (Num.aQ 0 (r.take (k - 0)))/\w=wr)
   case atStart=>exact⟨0,by omega,by omega,rfl,by simp[Num.wM],rfl⟩
   obtain⟨k,hk,wY,rfl,rfl,rfl⟩:=hrel;have HK:=ah hk;clear hk
   have hpre:(r.take (k - 0)).all Num.bn=true:=Tn HF.out _
   have hvl:=Num.EI (r.take (k - 0)) 0 hpre;have Dw:(r.take (k - 0)).length<=k - 0:=aoM _ _
   cases gk with
   |zero=>
    have hkz:k=s.size:=by have:=HK.out;omega
    have htk:r.take (k - 0)=r:=ado (by have:=aO.out;omega)
    have hvb:=Num.Sv HF.out Dv.out;rw[htk];have hx:=pX.out;have hv1:=Tq HF.out HR0.out
    obtain⟨v,hv⟩:=aj (Num.aQ 0 r);rw[hv]at hvb hx⊢;rw[hv]at hv1
    have hkd:decide (k<s.size)=false:=ac5 (by omega)
    clear hv hkz htk hpre hvl Dw pX;clear hv1;by_cases hov:9223372036854775808<=v
    ·rw[adk hov]at hx
     have sG:=ah hx;have hd:decide ((9223372036854775808:Int)<=v)=true:=adb (by omega)
     have hd':(9223372036854775808:Int)<=v:=by omega
     clear hx hov;go_wp2
     go_ret2
     rw[<-sG.out];exact⟨rfl,Below.refl _ _⟩
    rw[ade hov]at hx;have sG:=ah hx
    have hd:decide ((9223372036854775808:Int)<=v)=false:=ac5 (by omega)
    have hd':(v:Int)<=9223372036854775807:=by omega
    have hd0:(0:Int)<=v:=by omega
    clear hx hov;go_wp2
    go_ret2
    rw[<-sG.out];exact⟨rfl,Below.refl _ _⟩
   |succ g=>
    have hlt:k<s.size:=by have:=HK.out;omega
    have hlt':(k:Int)<s.size:=by omega
    have hk1:k - 0+0=k:=by omega
    have lW:=Am.out (k - 0) (by omega)
    obtain⟨x,hx⟩:=aj (s[k]'hlt)
    have hget:r[k - 0]?=some x:=by rw[lW,<-hx];first|done|(congr 1;done)|(congr 1;simp only[hk1])
    have oQ:=(Num.jX x).1 (afF.1 HF.out x (adI hget))
    have hnext:Num.aQ 0 (r.take (k+1 - 0))=Num.aQ 0 (r.take (k - 0))*10+(x.toNat - 48):=by
     obtain⟨hk2,e⟩:=adw.1 hget;rw[show k+1 - 0=(k - 0)+1 by omega,afC hk2,Num.Ia,e]
     rfl
    have Kv:10 ^(r.take (k - 0)).length<=10 ^ 18:=afa (by decide) (by have:=Dv.out;have:=aO.out;omega)
    obtain⟨v,hv⟩:=aj (Num.aQ 0 (r.take (k - 0)));rw[hv]at hnext hvl⊢
    have hvb:(v:Int)<=999999999999999999:=by
     have h1:(0+1)*10 ^(r.take (k - 0)).length=10 ^(r.take (k - 0)).length:=by omega
     have h2:(10:Nat) ^ 18=1000000000000000000:=by decide
     omega
    have hv0:(0:Int)<=v:=by omega
    have ac7:(48:Int)<=((s[k]'hlt).toNat:Int):=by rw[hx];omega
    have ac8:((s[k]'hlt).toNat:Int)<=57:=by rw[hx];omega
    have HN:=ah hnext;have IU:=ah hx;clear hv hvl Dw hpre hget lW hnext Kv hk1 hx oQ
    go_wp2
    go_roundg g
    case measure=>omega
    exact⟨k+1,by have:=HK.out;omega,by omega,by go_num,by rw[HN.out,<-IU.out];exact int_eq' (by omega),rfl⟩
  |succ g=>
   have hlt:k<s.size:=by have:=HK.out;omega
   have hlt':(k:Int)<s.size:=by omega
   have hk1:k - 0+0=k:=by omega
   have lW:=Am.out (k - 0) (by omega)
   obtain⟨x,hx⟩:=aj (s[k]'hlt)
   have hget:r[k - 0]?=some x:=by rw[lW,<-hx];first|done|(congr 1;done)|(congr 1;simp only[hk1])
   have HG:=ah hget;by_cases hd:48<=x.toNat/\x.toNat<=57
   ·have t1:decide (((s[k]'hlt).toNat:Int)<48)=false:=by rw[hx];exact ac5 (by omega)
    have t2:decide (57<((s[k]'hlt).toNat:Int))=false:=by rw[hx];exact ac5 (by omega)
    have HD:=ah hd;clear hx hget lW hd hk1;go_wp2
    go_roundg g
    case measure=>omega
    exact⟨k+1,by have:=HK.out;omega,by omega,by go_num,rfl,by rw[show k+1 - 0=(k - 0)+1 by omega];exact OH HA.out HG.out ((Num.jX x).2 HD.out)⟩
   have hno:Num.bn x=false:=by
    cases h:Num.bn x with
    |false=>rfl
    |true=>exact absurd ((Num.jX x).1 h) hd
   have wZ:=HX.out;rw[adk (by rw[OI hget hno];simp)]at wZ
   have Dx:=ah wZ;clear hget lW hno HX wZ hk1;by_cases h48:x.toNat<48
   ·have t1:decide (((s[k]'hlt).toNat:Int)<48)=true:=by rw[hx];exact adb (by omega)
    clear hx hd;go_wp2
    go_ret2
    rw[<-Dx.out];exact⟨rfl,Below.refl _ _⟩
   have t1:decide (((s[k]'hlt).toNat:Int)<48)=false:=by rw[hx];exact ac5 (by omega)
   have t2:decide (57<((s[k]'hlt).toNat:Int))=true:=by rw[hx];exact adb (by omega)
   clear hx hd;go_wp2
   go_ret2
   rw[<-Dx.out];exact⟨rfl,Below.refl _ _⟩
 have t1:(((s[0]'hf).toNat:Int) == 48)=false:=by rw[hc2,adh];intro e;exact h48 (afi.1 (by show c2.toNat=48;omega))
 have hLE:=hp';clear hrl hr0 hz hc2 hcond hc hnil;go_enter Tryz.func91,Tryz.ntmps91;go_wp2
 go_loopg [5] (s.size - 0) (fun g i wr=> ∃k:Nat,k+g=s.size/\0<=k/\i=.int .i64 k/\w=wr/\(r.take (k - 0)).all Num.bn=true)
 case atStart=>exact⟨0,by omega,by omega,rfl,rfl,by simp⟩
 obtain⟨k,hk,wY,rfl,rfl,hall⟩:=hrel;have HK:=ah hk;have HA:=ah hall;clear hk hall
 cases gk with
 |zero=>
  have hkz:k=s.size:=by have:=HK.out;omega
  have hfin:r.all Num.bn=true:=by
   have:=HA.out
   rwa [ado (by have:=aO.out;omega)]at this
  have HF:=ah hfin;have hx:=HX.out;rw[ade (by rw[hfin];simp)]at hx
  have jg:=ah hx;have hkd:decide (k<s.size)=false:=ac5 (by omega)
  clear hfin hkz HA HX hx;by_cases oP:19<r.length
  ·have hx:=jg.out
   rw[adk oP]at hx;have pX:=ah hx;have h19:(19:Int)<(s.size:Int):=by have:=aO.out;omega
   clear hx jg oP;go_wp2
   go_ret2
   rw[<-pX.out];exact⟨rfl,Below.refl _ _⟩
  have hx:=jg.out;rw[ade oP]at hx;have pX:=ah hx
  have h19:(s.size:Int)<=19:=by have:=aO.out;omega
  have Dv:=ah oP;clear hx jg oP;go_wp2;clear wY HK hkd
  go_loopg [6,7] (s.size - 0) (fun g a i wr=> ∃k:Nat,k+g=s.size/\0<=k/\i=.int .i64 k/\a=.int .u64 (Num.aQ 0 (r.take (k - 0)))/\w=wr)
  case atStart=>exact⟨0,by omega,by omega,rfl,by simp[Num.wM],rfl⟩
  obtain⟨k,hk,wY,rfl,rfl,rfl⟩:=hrel;have HK:=ah hk;clear hk
  have hpre:(r.take (k - 0)).all Num.bn=true:=Tn HF.out _
  have hvl:=Num.EI (r.take (k - 0)) 0 hpre;have Dw:(r.take (k - 0)).length<=k - 0:=aoM _ _
  cases gk with
  |zero=>
   have hkz:k=s.size:=by have:=HK.out;omega
   have htk:r.take (k - 0)=r:=ado (by have:=aO.out;omega)
   have hvb:=Num.Sv HF.out Dv.out;rw[htk];have hx:=pX.out;have hv1:=Tq HF.out HR0.out
   obtain⟨v,hv⟩:=aj (Num.aQ 0 r);rw[hv]at hvb hx⊢;rw[hv]at hv1
   have hkd:decide (k<s.size)=false:=ac5 (by omega)
   clear hv hkz htk hpre hvl Dw pX;clear hv1;by_cases hov:9223372036854775808<=v
   ·rw[adk hov]at hx
    have sG:=ah hx;have hd:decide ((9223372036854775808:Int)<=v)=true:=adb (by omega)
    have hd':(9223372036854775808:Int)<=v:=by omega
    clear hx hov;go_wp2
    go_ret2
    rw[<-sG.out];exact⟨rfl,Below.refl _ _⟩
   rw[ade hov]at hx;have sG:=ah hx
   have hd:decide ((9223372036854775808:Int)<=v)=false:=ac5 (by omega)
   have hd':(v:Int)<=9223372036854775807:=by omega
   have hd0:(0:Int)<=v:=by omega
   clear hx hov;go_wp2
   go_ret2
   rw[<-sG.out];exact⟨rfl,Below.refl _ _⟩
  |succ g=>
   have hlt:k<s.size:=by have:=HK.out;omega
   have hlt':(k:Int)<s.size:=by omega
   have hk1:k - 0+0=k:=by omega
   have lW:=Am.out (k - 0) (by omega)
   obtain⟨x,hx⟩:=aj (s[k]'hlt)
   have hget:r[k - 0]?=some x:=by rw[lW,<-hx];first|done|(congr 1;done)|(congr 1;simp only[hk1])
   have oQ:=(Num.jX x).1 (afF.1 HF.out x (adI hget))
   have hnext:Num.aQ 0 (r.take (k+1 - 0))=Num.aQ 0 (r.take (k - 0))*10+(x.toNat - 48):=by
    obtain⟨hk2,e⟩:=adw.1 hget;rw[show k+1 - 0=(k - 0)+1 by omega,afC hk2,Num.Ia,e]
    rfl
   have Kv:10 ^(r.take (k - 0)).length<=10 ^ 18:=afa (by decide) (by have:=Dv.out;have:=aO.out;omega)
   obtain⟨v,hv⟩:=aj (Num.aQ 0 (r.take (k - 0)));rw[hv]at hnext hvl⊢
   have hvb:(v:Int)<=999999999999999999:=by
    have h1:(0+1)*10 ^(r.take (k - 0)).length=10 ^(r.take (k - 0)).length:=by omega
    have h2:(10:Nat) ^ 18=1000000000000000000:=by decide
    omega
   have hv0:(0:Int)<=v:=by omega
   have ac7:(48:Int)<=((s[k]'hlt).toNat:Int):=by rw[hx];omega
   have ac8:((s[k]'hlt).toNat:Int)<=57:=by rw[hx];omega
   have HN:=ah hnext;have IU:=ah hx;clear hv hvl Dw hpre hget lW hnext Kv hk1 hx oQ;go_wp2
   go_roundg g
   case measure=>omega
   exact⟨k+1,by have:=HK.out;omega,by omega,by go_num,by rw[HN.out,<-IU.out];exact int_eq' (by omega),rfl⟩
 |succ g=>
  have hlt:k<s.size:=by have:=HK.out;omega
  have hlt':(k:Int)<s.size:=by omega
  have hk1:k - 0+0=k:=by omega
  have lW:=Am.out (k - 0) (by omega)
  obtain⟨x,hx⟩:=aj (s[k]'hlt)
  have hget:r[k - 0]?=some x:=by rw[lW,<-hx];first|done|(congr 1;done)|(congr 1;simp only[hk1])
  have HG:=ah hget;by_cases hd:48<=x.toNat/\x.toNat<=57
  ·have t1:decide (((s[k]'hlt).toNat:Int)<48)=false:=by rw[hx];exact ac5 (by omega)
   have t2:decide (57<((s[k]'hlt).toNat:Int))=false:=by rw[hx];exact ac5 (by omega)
   have HD:=ah hd;clear hx hget lW hd hk1;go_wp2
   go_roundg g
   case measure=>omega
   exact⟨k+1,by have:=HK.out;omega,by omega,by go_num,rfl,by rw[show k+1 - 0=(k - 0)+1 by omega];exact OH HA.out HG.out ((Num.jX x).2 HD.out)⟩
  have hno:Num.bn x=false:=by
   cases h:Num.bn x with
   |false=>rfl
   |true=>exact absurd ((Num.jX x).1 h) hd
  have wZ:=HX.out;rw[adk (by rw[OI hget hno];simp)]at wZ
  have Dx:=ah wZ;clear hget lW hno HX wZ hk1;by_cases h48:x.toNat<48
  ·have t1:decide (((s[k]'hlt).toNat:Int)<48)=true:=by rw[hx];exact adb (by omega)
   clear hx hd;go_wp2
   go_ret2
   rw[<-Dx.out];exact⟨rfl,Below.refl _ _⟩
  have t1:decide (((s[k]'hlt).toNat:Int)<48)=false:=by rw[hx];exact ac5 (by omega)
  have t2:decide (57<((s[k]'hlt).toNat:Int))=true:=by rw[hx];exact adb (by omega)
  clear hx hd;go_wp2
  go_ret2
  rw[<-Dx.out];exact⟨rfl,Below.refl _ _⟩
theorem Zc (s:ByteArray) (w:World) (hs:s.size<=1073741824):
  Calls Tryz.prog 91 #[.string s] w (OJ (Num.iK s.data.toList) w):=by
 by_cases hpos:0<s.size
 ·by_cases hc:(s[0]'hpos).toNat=45
  ·exact amI s w hs hpos hc
  exact amK s w hs hpos hc
 have hl:s.data.toList=[]:=adB (by rw[<-Lib.size_eq];omega)
 have hz:s.size=0:=by omega
 have hE:((0:Int) == s.size)=true:=by rw[hz];rfl
 rw[hl,show Num.iK []=(0,50) from by decide]
 have hd:(s.size:Int)<=0:=by omega
 have HZ:=ah hz;clear hz hl;go_enter Tryz.func91,Tryz.ntmps91;go_wp2
 go_ret2
 exact⟨rfl,Below.refl _ _⟩
theorem ahj {w:World} {n:String} {g:Nat} {cs:Array Value} (hg:Tryz.prog.globalNamed n=some g) (h:w.var? Tryz.prog n=some cs) (i:Nat):w.cell? ⟨g,i,none⟩=cs[i]?:=by
 unfold World.var? at h;rw[hg]at h;simp only[an0]at h
 split at h
 ·rename_i h2
  cases h;simp[World.cell?,h2]
 cases h
theorem Tt (x:Nat) (hx0:x≠0) (hx:x<18446744073709551616) (w:World) (hL:Laid w):
  Calls Tryz.prog 216 #[.int .u64 x] w fun e w'=>e=.returned (.int .i64 (Lib.ctz 64 x))/\w=w':=by
 obtain⟨hlow,hk⟩:=Lib.lowest_bit 64 x hx0 hx;obtain⟨hi,htab⟩:=Lib.deBruijn64_at _ hk
 obtain⟨cs,h1,h2⟩:=hL.bru;have hcell:=(ahj Td h1 _).trans (h2 _ hi);rw[htab]at hcell
 have key:=tz64_key x _ hx hx0 hlow
 obtain⟨idx,hidx⟩:=aj (2 ^ Lib.ctz 64 x*285870213051353865 % 18446744073709551616 / 288230376151711744)
 rw[hidx]at key hcell hi;obtain⟨k,hkk⟩:=aj (Lib.ctz 64 x);rw[hkk]at hcell hk⊢
 have hne:((x:Int) == 0)=false:=by rw[adh];omega
 clear hlow htab h1 h2 hidx hkk hL;go_enter Tryz.func216,Tryz.ntmps216
 go_wp2_with (simp only[key]);go_ret;exact⟨rfl,rfl⟩
theorem ahk (w:World) (hL:Laid w):
  Calls Tryz.prog 233 #[.int .u64 16] w fun e w'=>e=.returned (.int .i64 4)/\w=w':=by
 have hc:=Tt 16 (by omega) (by omega) w hL
 have h4:Lib.ctz 64 16=4:=by decide
 rw[h4]at hc;have HC:=ah hc;clear hc h4;go_enter Tryz.func233,Tryz.ntmps233
 go_wp2_with fail;refine HC.mono ?_;rintro e w' ⟨rfl,rfl⟩;go_wp2;go_ret;exact⟨rfl,rfl⟩
theorem ahl (w:World):Calls Tryz.prog 232 #[.int .i64 16] w fun e w'=>e=.returned (.bool true)/\w=w':=by
 go_enter Tryz.func232,Tryz.ntmps232;go_wp2;go_ret;exact⟨rfl,rfl⟩
theorem ahm (n k:Nat) (w:World) (hn:n<18446744073709551616) (hk:k<=16):
  Calls Tryz.prog 245 #[.int .u64 n,.int .i64 k] w fun e w'=>e=.returned (.string ⟨(Num.hexN k n).toArray⟩)/\Below w.heap.size w w':=by
 go_enter Tryz.func245,Tryz.ntmps245;go_wp2
 go_loopg [0,5,6] k (fun g a b i wr=> ∃(j m:Nat) (acc:List UInt8),j+g=k/\m<18446744073709551616/\acc.length=j/\a=.int .u64 m/\b=.string ⟨acc.toArray⟩/\i=.int .i64 j/\Num.hexN k n=Num.hexN g m++acc/\Below w.heap.size w wr)
 case atStart=>exact⟨0,n,[],by omega,hn,rfl,rfl,rfl,rfl,by simp,Below.refl _ _⟩
 obtain⟨j,m,acc,hj,hm,hl,rfl,rfl,rfl,hacc,hb⟩:=hrel;have HJ:=ah hj;have HA:=ah hacc
 have HB:=ah hb;have hal:acc.length<=16:=by omega
 have lX:=ah hl;clear hj hacc hb hl;cases gk with
 |zero=>
  obtain rfl:k=j:=by have:=HJ.out;omega
  have hd:decide (k<k)=false:=ac5 (by omega)
  have ha:=HA.out;rw[Num.hexN,aex]at ha;have HF:=ah ha;clear ha HA;go_wp2;go_ret
  exact⟨by rw[HF.out];rfl,HB.out⟩
 |succ g=>
  have hlt:j<k:=by have:=HJ.out;omega
  have hlt':(j:Int)<k:=by omega
  have hmb:(m:Int)<=18446744073709551615:=by omega
  have hm0:(0:Int)<=m:=by omega
  have hstep:Num.hexN (g+1) m=Num.hexN g (m / 16)++[Num.nR (m % 16)]:=rfl
  obtain⟨b,hbb⟩:=aj (Num.nR (m % 16))
  have hfin:Num.hexN k n=Num.hexN g (m / 16) ++(b :: acc):=by rw[HA.out,hstep,hbb,aeG];rfl
  have HF:=ah hfin;by_cases h9:m % 16<10
  ·have hbv:(b.toNat:Int)=48+(m:Int) % 16:=by
    rw[<-hbb];unfold Num.nR;rw[adk h9,Tj h9];omega
   have hcv:=fun wx=>OL wx (48+(m:Int) % 16) b hbv
   have h9':(m:Int) % 16<=9:=by omega
   clear hbb hfin hstep hbv h9;go_wp2
   go_roundg g
   case measure=>omega
   exact⟨j+1,m / 16,b :: acc,by have:=HJ.out;omega,by omega,by simp[lX.out],by go_num,by rw[Ii];rfl,by go_num,HF.out,HB.alloc HB.size _⟩
  have hbv:(b.toNat:Int)=97+(m:Int) % 16 - 10:=by
   rw[<-hbb];unfold Num.nR;rw[ade h9]
   have:(UInt8.ofNat (87+m % 16)).toNat=87+m % 16:=by simp;omega
   rw[this];omega
  have hcv:=fun wx=>OL wx (97+(m:Int) % 16 - 10) b hbv
  have h9':(9:Int)<(m:Int) % 16:=by omega
  clear hbb hfin hstep hbv h9;go_wp2
  go_roundg g
  case measure=>omega
  exact⟨j+1,m / 16,b :: acc,by have:=HJ.out;omega,by omega,by simp[lX.out],by go_num,by rw[Ii];rfl,by go_num,HF.out,HB.alloc HB.size _⟩
end Go.Proofs.YtkdakckjafomhaaGreatDoor
