/- Contracts and plain laws,part 3. -/
import Derived.Test.YtanlehkalkafdaaGreatDoorUR02
import Derived.Shelf.Spec.TrailingZeros
import Derived.Deep.QuietTactic
import Derived.BigQuiet
import Derived.Deep.AppendLies
import Derived.Deep.Draws
import Derived.Maps.AppendAt
import Derived.RegionTactic
import Derived.Laws.RangeAny
import Derived.Lib.IndexAny
import Derived.Lib.OthersKept
import Derived.StillTailTactics
import Derived.Deep.RegionWith
import Derived.Deep.RegionHeld3
set_option maxHeartbeats 64000000
set_option maxRecDepth 1000000
set_option linter.all false
namespace Go.Proofs.YtanlehkalkafdaaGreatDoor
open Go.RowKit
theorem trim_neg (l:List UInt8):Lib.trimPrefix l [45]=if l.head?=some 45 then l.drop 1 else l:=by
 unfold Lib.trimPrefix Lib.hasPrefix;cases l with
 |nil=>simp
 |cons c t=>
  simp only[List.isPrefixOf,zN,uH,uh,vF,vX,AU,uw];by_cases h:c=45
  ·subst h;simp
  rw[rU (fun e=>h e.symm),rU h]
def restOk:List UInt8->Bool
 |[]=>false
 |c :: r=> !(c == 48) &&(c :: r).all Num.isDig
theorem isInt_rest {l:List UInt8} (h:l≠ [48]):Num.isInt l=restOk (if l.head?=some 45 then l.drop 1 else l):=by
 unfold Num.isInt;rw[rU h];cases(if l.head?=some 45 then l.drop 1 else l)<;>rfl
theorem all_take_succ {l:List UInt8} {k:Nat} {c:UInt8} (h:(l.take k).all Num.isDig=true) (hc:l[k]?=some c) (hd:Num.isDig c=true):(l.take (k+1)).all Num.isDig=true:=by
 obtain⟨hk,e⟩:=rZ.1 hc;rw[vC hk,Bj,h,e];simp[hd]
theorem not_all {l:List UInt8} {k:Nat} {c:UInt8} (hc:l[k]?=some c) (hd:Num.isDig c=false):l.all Num.isDig=false:=by
 cases h:l.all Num.isDig with
 |false=>rfl
 |true=>
  have:=wC.1 h c (sK hc);rw[hd]at this;cases this
theorem isInt_any (s:ByteArray) (w:World) (hs:s.size<=1073741824):
  Calls Tryz.prog 156 #[.string s] w fun e w'=>e=.returned (.bool (Num.isInt s.data.toList))/\w=w':=by
 obtain⟨l,hl⟩:=aj s.data.toList
 have htp:=(Tryz.strings_TrimPrefix s ⟨#[45]⟩ w).mono fun e w' (h:_/\w'=w)=>(⟨h.1,h.2.symm⟩:_/\w=w')
 have e45:(⟨#[45]⟩:ByteArray).data.toList=[45]:=rfl;rw[e45,trim_neg,hl]at htp
 have hsz:l.length=s.size:=by rw[<-hl,Lib.size_eq]
 rw[hl];by_cases h48:l=[48]
 ·have hb:(s.toList ==[48])=true:=by rw[Lib.toList_data,hl,h48];rfl
  have hr:Num.isInt l=true:=by unfold Num.isInt;rw[rY h48]
  rw[hr];clear htp hl h48 hr hsz;go_enter Tryz.func156,Tryz.ntmps156;go_wp2;go_ret
  exact⟨rfl,rfl⟩
 have hb:(s.toList ==[48])=false:=by
  rw[Lib.toList_data,hl];cases h:l ==[48] with
  |false=>rfl
  |true=>exact absurd (eq_of_beq h) h48
 obtain⟨r,hr⟩:=aj (if l.head?=some 45 then l.drop 1 else l)
 have hi:=isInt_rest h48;rw[hr]at hi;rw[hr]at htp
 have hrl:r.length<=1073741824:=by
  rw[<-hr]
  split
  ·simp;omega
  omega
 obtain⟨z,hz⟩:=aj (⟨r.toArray⟩:ByteArray);have hzl:z.data.toList=r:=by rw[<-hz]
 have hzs:z.size=r.length:=by rw[<-hz,size_list]
 rw[hz]at htp;have HTP:=ah htp;have HI:=ah hi;have HZ:=ah hzl;have HZS:=ah hzs
 clear htp hi hzl hzs hz hr hl h48 hsz;cases r with
 |nil=>
  have hzn:z.toList.isEmpty=true:=by rw[Lib.toList_data,HZ.out];rfl
  have hze:(z.toList ==[])=true:=by rw[Lib.toList_data,HZ.out];rfl
  rw[HI.out]
  show Calls _ _ _ _ fun e w'=>e=.returned (.bool false)/\w=w'
  clear HI;go_enter Tryz.func156,Tryz.ntmps156;go_wp2_with fail;refine HTP.mono ?_
  rintro e w' ⟨rfl,rfl⟩;go_wp2;go_ret;exact⟨rfl,rfl⟩
 |cons c t=>
  have hpos:0<z.size:=by rw[HZS.out];simp
  have hz0:z[0]'hpos=c:=by
   have h1:=Lib.data_getElem? z 0 hpos;rw[HZ.out]at h1
   simpa using h1.symm
  have hzn:z.toList.isEmpty=false:=by rw[Lib.toList_data,HZ.out];rfl
  have hze:(z.toList ==[])=false:=by rw[Lib.toList_data,HZ.out];rfl
  rw[HI.out];clear HI;obtain⟨n,hn⟩:=aj z.size;by_cases hc48:c=48
  ·have hb0:(((z[0]'hpos).toNat:Int) == 48)=true:=by rw[hz0,hc48];rfl
   have hres:restOk (c :: t)=false:=by subst hc48;rfl
   rw[hres];have HZ0:=ah hz0;clear hz0 hn hres;go_enter Tryz.func156,Tryz.ntmps156
   go_wp2_with fail;refine HTP.mono ?_;rintro e w' ⟨rfl,rfl⟩;go_wp2;go_ret;exact⟨rfl,rfl⟩
  have hb0:(((z[0]'hpos).toNat:Int) == 48)=false:=by
   rw[hz0,rX];intro e;exact hc48 (vS.1 (by show c.toNat=48;omega))
  have hres:restOk (c :: t)=(c :: t).all Num.isDig:=by
   unfold restOk;simp[hc48]
  rw[hres,<-HZ.out];have hzb:z.size<=1073741824:=by rw[HZS.out];exact hrl
  have HRL:=ah hrl;clear hz0 hn hres hrl;go_enter Tryz.func156,Tryz.ntmps156
  go_wp2_with fail;refine HTP.mono ?_;rintro e w' ⟨rfl,rfl⟩;go_wp2
  go_loopg [17] z.size (fun g i wr=> ∃k:Nat,k+g=z.size/\i=.int .i64 k/\w=wr/\(z.data.toList.take k).all Num.isDig=true)
  case atStart=>exact⟨0,by omega,rfl,rfl,by simp⟩
  obtain⟨k,hk,rfl,rfl,hall⟩:=hrel;have HK:=ah hk;have HA:=ah hall;clear hk hall
  cases gk with
  |zero=>
   have hkz:k=z.size:=by have:=HK.out;omega
   have hfin:z.data.toList.all Num.isDig=true:=by
    have:=HA.out
    rwa [sG (by rw[hkz,Lib.size_eq];exact rM _)]at this
   have HF:=ah hfin;have hkd:decide (k<z.size)=false:=rO (by omega)
   clear hfin hkz;go_wp2;go_ret;exact⟨by rw[HF.out];rfl,rfl⟩
  |succ g=>
   have hlt:k<z.size:=by have:=HK.out;omega
   have hlt':(k:Int)<z.size:=by omega
   obtain⟨x,hx⟩:=aj (z[k]'hlt);have hget:=Lib.data_getElem? z k hlt;rw[hx]at hget
   have HG:=ah hget;by_cases hd:48<=x.toNat/\x.toNat<=57
   ·have t1:decide (((z[k]'hlt).toNat:Int)<48)=false:=by rw[hx];exact rO (by omega)
    have t2:decide (57<((z[k]'hlt).toNat:Int))=false:=by rw[hx];exact rO (by omega)
    have HD:=ah hd;clear hx hget hd;go_wp2
    go_roundg g
    case measure=>omega
    exact⟨k+1,by have:=HK.out;omega,by go_num,rfl,all_take_succ HA.out HG.out ((Num.isDig_iff x).2 HD.out)⟩
   have hno:Num.isDig x=false:=by
    cases h:Num.isDig x with
    |false=>rfl
    |true=>exact absurd ((Num.isDig_iff x).1 h) hd
   have HNO:=ah (not_all hget hno);clear hget hno;by_cases h48:x.toNat<48
   ·have t1:decide (((z[k]'hlt).toNat:Int)<48)=true:=by rw[hx];exact rQ (by omega)
    clear hx hd;go_wp2;go_ret;exact⟨by rw[HNO.out];rfl,rfl⟩
   have t1:decide (((z[k]'hlt).toNat:Int)<48)=false:=by rw[hx];exact rO (by omega)
   have t2:decide (57<((z[k]'hlt).toNat:Int))=true:=by rw[hx];exact rQ (by omega)
   clear hx hd;go_wp2;go_ret;exact⟨by rw[HNO.out];rfl,rfl⟩
theorem fmtInt_any (n:Int) (w:World) (h0: -9223372036854775808<=n) (h1:n<=9223372036854775807) (hL:Laid w):
  Calls Tryz.prog 52 #[.int .i64 n] w fun e w'=>e=.returned (.string ⟨(Lib.itoa n).toArray⟩)/\Below w.heap.size w w':=by
 have H:=ah (formatInt_any n w h0 h1 hL);clear hL;go_enter Tryz.func52,Tryz.ntmps52
 go_wp2_with fail;refine H.out.mono ?_;rintro e w1 ⟨rfl,hb⟩;have HB:=ah hb;clear hb;go_wp2
 go_ret;exact⟨rfl,HB.out⟩
theorem err_not_nil (w:World) (a:Addr):(binOp .neq 109 (.iface 288 (.pointer (some a))) .nilIface).run Tryz.prog w=.ok (.bool true) w:=by kernel_rfl
def IntRes (x:Int×Nat) (w:World) (e:Ending) (w':World):Prop:=e=.returned (.tuple #[.int .i64 x.1,.int .i64 x.2])/\Below w.heap.size w w'
theorem parseInt_any (s:ByteArray) (w:World) (hs:s.size<=1073741824) (hL:Laid w):
  Calls Tryz.prog 115 #[.string s] w (IntRes (Num.parseInt s.data.toList) w):=by
 have hI:=isInt_any s w hs;cases hi:Num.isInt s.data.toList with
 |false=>
  rw[hi]at hI;rw[Num.parseInt_bad hi];have HI:=ah hI;clear hI hi hL
  go_enter Tryz.func115,Tryz.ntmps115;go_wp2_with fail;refine HI.mono ?_
  rintro e w' ⟨rfl,rfl⟩;go_wp2
  go_ret2
  exact⟨rfl,Below.refl _ _⟩
 |true=>
  rw[hi]at hI
  rcases Num.lib_parse_isInt hi with⟨v,h1,h2⟩|⟨h1,h2⟩
  ·rw[h2]
   have hc:=(Tryz.strconv_ParseInt_10_at64_ok s (by omega) v h1 w).mono fun e w' ⟨he,hw⟩=>(⟨he,below_bytesWorld hw⟩:e=Ending.returned (.tuple #[.int .i64 v,.nilIface])/\Below w.heap.size w w')
   have HI:=ah hI;have HC:=ah hc;clear hI hi hL h1 h2 hc
   go_enter Tryz.func115,Tryz.ntmps115;go_wp2_with fail;refine HI.mono ?_
   rintro e w' ⟨rfl,rfl⟩;go_wp2_with fail;refine HC.mono ?_;rintro e w1 ⟨rfl,hb⟩
   have HB:=ah hb;clear hb;go_wp2
   go_ret2
   exact⟨rfl,HB.out⟩
  rw[h2];obtain⟨tp,p,hv⟩:=hL.rng
  have hc:=Tryz.strconv_ParseInt_10_at64_range_var s (by omega) h1 tp p w hv
  have HI:=ah hI;have HC:=ah hc;clear hI hi hL h1 h2 hc hv
  go_enter Tryz.func115,Tryz.ntmps115;go_wp2_with fail;refine HI.mono ?_
  rintro e w' ⟨rfl,rfl⟩;go_wp2_with fail;refine HC.mono ?_;rintro e w1 ⟨N,rfl,-,-,hb⟩
  have HB:=ah hb;have hne:=err_not_nil;clear hb;go_wp2
  go_ret2
  exact⟨rfl,HB.out⟩
theorem conv_one (w:World) (x:Int) (b:UInt8) (h:(b.toNat:Int)=x):
  (convert 104 9 (.slice (some ⟨w.heap.size,0,none⟩) 1 1)).run Tryz.prog (w.alloc (.cells #[.int .u8 x] 5))=.ok (.string ⟨#[b]⟩) (w.alloc (.cells #[.int .u8 x] 5)):=by
 have:=run_convert_bytes_back (P:=Tryz.prog) (w.alloc (.cells #[.int .u8 x] 5)) 104 9 5 ⟨w.heap.size,0,none⟩ 1 [b] Tryz.underlying104 Tryz.underlying5 Tryz.underlying9 (fun j hj=>by
  have hj0:j=0:=by simp at hj;omega
  subst hj0
  simp[Addr.add,h])
 exact this
theorem nDigits_le: ∀k u:Nat,u<10 ^(k+1)->Lib.nDigits u<=k+1
 |0,u,hu=>by rw[Lib.nDigits_small (by simpa using hu)];omega
 |k+1,u,hu=>by
  by_cases hs:u<10
  ·rw[Lib.nDigits_small hs];omega
  rw[Lib.nDigits_big hs];have:=nDigits_le k (u / 10) (by rw[vN]at hu;omega)
  omega
theorem str_app (a b:List UInt8):(⟨a.toArray⟩ ++⟨b.toArray⟩:ByteArray)=⟨(a++b).toArray⟩:=by
 apply vI
 simp
theorem dig_toNat {d:Nat} (h:d<10):((UInt8.ofNat (48+d)).toNat:Int)=48+(d:Int):=by rw[Num.ofNat_dig h];omega
theorem digits_any (n:Nat) (w:World) (hn:n<18446744073709551616):
  Calls Tryz.prog 109 #[.int .u64 n] w fun e w'=>e=.returned (.string ⟨(Lib.decDigits n).toArray⟩)/\Below w.heap.size w w':=by
 have hn':(n:Int)<=18446744073709551615:=by omega
 go_enter Tryz.func109,Tryz.ntmps109;go_wp2
 go_loopg [0,3] n (fun g a b wr=> ∃(m:Nat) (acc:List UInt8),m<=g/\m<=n/\a=.int .u64 m/\b=.string ⟨acc.toArray⟩/\Lib.decDigits n=Lib.decDigits m++acc/\Below w.heap.size w wr)
 case atStart=>exact⟨n,[],rM _,rM _,rfl,rfl,by simp,Below.refl _ _⟩
 obtain⟨m,acc,hm,hmn,rfl,rfl,hacc,hb⟩:=hrel;have HA:=ah hacc;have HB:=ah hb;clear hacc hb
 have hal:acc.length<=20:=by
  have h1:=uo List.length HA.out;rw[rP,Num.dec_len,Num.dec_len]at h1
  have h2:=nDigits_le 19 n (by omega)
  omega
 by_cases h10:m<10
 ·have hd:decide (10<=(m:Int))=false:=rO (by omega)
  have hm0:(m:Int)<10:=by omega
  obtain⟨b,hbb⟩:=aj (UInt8.ofNat (48+m))
  have hcv:=fun wx=>conv_one wx (48+(m:Int)) b (by rw[<-hbb];exact dig_toNat (by omega))
  have hfin:Lib.decDigits n=b :: acc:=by rw[HA.out,Lib.decDigits_one h10,hbb];rfl
  have HF:=ah hfin;clear hbb hfin;go_wp2;go_ret
  exact⟨by rw[HF.out,str_app];rfl,(HB.alloc HB.size _)⟩
 have hd:decide (10<=(m:Int))=true:=rQ (by omega)
 have hm0:(10:Int)<=m:=by omega
 have hmb:(m:Int)<=18446744073709551615:=by omega
 obtain⟨b,hbb⟩:=aj (UInt8.ofNat (48+m % 10))
 have hcv:=fun wx=>conv_one wx (48+(m:Int) % 10) b (by rw[<-hbb,dig_toNat (by omega)];omega)
 have hfin:Lib.decDigits n=Lib.decDigits (m / 10) ++(b :: acc):=by rw[HA.out,Num.dec_step h10,hbb,sV];rfl
 have HF:=ah hfin;obtain⟨g,rfl⟩: ∃g,gk=g+1:=⟨gk - 1,by omega⟩
 clear hbb hfin;go_wp2
 go_roundg g
 case measure=>omega
 exact⟨m / 10,b :: acc,by omega,by omega,by go_num,by rw[str_app];rfl,HF.out,HB.alloc HB.size _⟩
theorem refFmtInt_any (n:Int) (w:World) (h0: -9223372036854775808<=n) (h1:n<=9223372036854775807):
  Calls Tryz.prog 62 #[.int .i64 n] w fun e w'=>e=.returned (.string ⟨(Lib.itoa n).toArray⟩)/\Below w.heap.size w w':=by
 by_cases hn:n<0
 ·obtain⟨m,rfl⟩: ∃m:Nat,n= -(m:Int):=⟨(-n).toNat,by omega⟩
  have hm1:(1:Int)<=m:=by omega
  have hm2:(m:Int)<=9223372036854775808:=by omega
  have e1:IntKind.u64.wrap (-(m:Int))=18446744073709551616 - m:=by rw[IntKind.wrap_u64];omega
  have e2:IntKind.u64.wrap (-(18446744073709551616 -(m:Int)))=m:=by rw[IntKind.wrap_u64];omega
  have hi:=Lib.itoa_neg m (by omega)
  have HI:=ah hi;have hd:decide (-(m:Int)<0)=true:=rQ hn
  have hdl:(Lib.decDigits m).length<=20:=by rw[Num.dec_len];exact nDigits_le 19 m (by omega)
  obtain⟨r,hr⟩:=aj (Lib.decDigits m);have hc:=digits_any m w (by omega)
  rw[hr]at hc hdl;rw[HI.out,hr];have HC:=ah hc;clear hi hc HI hr
  go_enter Tryz.func62,Tryz.ntmps62;go_wp2_with fail;refine HC.mono ?_
  rintro e w1 ⟨rfl,hb⟩;have HB:=ah hb;clear hb;go_wp2;go_ret
  exact⟨uo (fun b=>Ending.returned (Value.string b)) (str_app [45] r),HB.out⟩
 obtain⟨m,rfl⟩: ∃m:Nat,n=(m:Int):=⟨n.toNat,by omega⟩
 have hm2:(m:Int)<=9223372036854775807:=by omega
 have hm0:(0:Int)<=m:=by omega
 have e1:IntKind.u64.wrap (m:Int)=m:=by rw[IntKind.wrap_u64];omega
 have hd:decide ((m:Int)<0)=false:=rO hn;have HC:=ah (digits_any m w (by omega))
 rw[Lib.itoa_nonneg];go_enter Tryz.func62,Tryz.ntmps62;go_wp2_with fail;refine HC.mono ?_
 rintro e w1 ⟨rfl,hb⟩;have HB:=ah hb;clear hb;go_wp2;go_ret;exact⟨rfl,HB.out⟩
theorem int_eq' {k:IntKind} {a b:Int} (h:a=b):Value.int k a=Value.int k b:=by rw[h]
theorem var_cell {w:World} {n:String} {g:Nat} {cs:Array Value} (hg:Tryz.prog.globalNamed n=some g) (h:w.var? Tryz.prog n=some cs) (i:Nat):w.cell? ⟨g,i,none⟩=cs[i]?:=by
 unfold World.var? at h;rw[hg]at h;simp only[zD]at h
 split at h
 ·rename_i h2
  cases h;simp[World.cell?,h2]
 cases h
theorem tz64_any (x:Nat) (hx0:x≠0) (hx:x<18446744073709551616) (w:World) (hL:Laid w):
  Calls Tryz.prog 249 #[.int .u64 x] w fun e w'=>e=.returned (.int .i64 (Lib.ctz 64 x))/\w=w':=by
 obtain⟨hlow,hk⟩:=Lib.lowest_bit 64 x hx0 hx;obtain⟨hi,htab⟩:=Lib.deBruijn64_at _ hk
 obtain⟨cs,h1,h2⟩:=hL.bru;have hcell:=(var_cell gBru h1 _).trans (h2 _ hi)
 rw[htab]at hcell;have key:=tz64_key x _ hx hx0 hlow
 obtain⟨idx,hidx⟩:=aj (2 ^ Lib.ctz 64 x*285870213051353865 % 18446744073709551616 / 288230376151711744)
 rw[hidx]at key hcell hi;obtain⟨k,hkk⟩:=aj (Lib.ctz 64 x);rw[hkk]at hcell hk⊢
 have hne:((x:Int) == 0)=false:=by rw[rX];omega
 clear hlow htab h1 h2 hidx hkk hL;go_enter Tryz.func249,Tryz.ntmps249
 go_wp2_with (simp only[key]);go_ret;exact⟨rfl,rfl⟩
theorem tz16_any (w:World) (hL:Laid w):
  Calls Tryz.prog 233 #[.int .u64 16] w fun e w'=>e=.returned (.int .i64 4)/\w=w':=by
 have hc:=tz64_any 16 (by omega) (by omega) w hL
 have h4:Lib.ctz 64 16=4:=by decide
 rw[h4]at hc;have HC:=ah hc;clear hc h4;go_enter Tryz.func233,Tryz.ntmps233
 go_wp2_with fail;refine HC.mono ?_;rintro e w' ⟨rfl,rfl⟩;go_wp2;go_ret;exact⟨rfl,rfl⟩
theorem pow16_any (w:World):Calls Tryz.prog 232 #[.int .i64 16] w fun e w'=>e=.returned (.bool true)/\w=w':=by
 go_enter Tryz.func232,Tryz.ntmps232;go_wp2;go_ret;exact⟨rfl,rfl⟩
theorem hex_any (n k:Nat) (w:World) (hn:n<18446744073709551616) (hk:k<=16):
  Calls Tryz.prog 203 #[.int .u64 n,.int .i64 k] w fun e w'=>e=.returned (.string ⟨(Num.hexN k n).toArray⟩)/\Below w.heap.size w w':=by
 go_enter Tryz.func203,Tryz.ntmps203;go_wp2
 go_loopg [0,5,6] k (fun g a b i wr=> ∃(j m:Nat) (acc:List UInt8),j+g=k/\m<18446744073709551616/\acc.length=j/\a=.int .u64 m/\b=.string ⟨acc.toArray⟩/\i=.int .i64 j/\Num.hexN k n=Num.hexN g m++acc/\Below w.heap.size w wr)
 case atStart=>exact⟨0,n,[],by omega,hn,rfl,rfl,rfl,rfl,by simp,Below.refl _ _⟩
 obtain⟨j,m,acc,hj,hm,hl,rfl,rfl,rfl,hacc,hb⟩:=hrel;have HJ:=ah hj;have HA:=ah hacc
 have HB:=ah hb;have hal:acc.length<=16:=by omega
 have HAL:=ah hl;clear hj hacc hb hl;cases gk with
 |zero=>
  obtain rfl:k=j:=by have:=HJ.out;omega
  have hd:decide (k<k)=false:=rO (by omega)
  have ha:=HA.out;rw[Num.hexN,tY]at ha;have HF:=ah ha;clear ha HA;go_wp2;go_ret
  exact⟨by rw[HF.out];rfl,HB.out⟩
 |succ g=>
  have hlt:j<k:=by have:=HJ.out;omega
  have hlt':(j:Int)<k:=by omega
  have hmb:(m:Int)<=18446744073709551615:=by omega
  have hm0:(0:Int)<=m:=by omega
  have hstep:Num.hexN (g+1) m=Num.hexN g (m / 16)++[Num.hexd (m % 16)]:=rfl
  obtain⟨b,hbb⟩:=aj (Num.hexd (m % 16))
  have hfin:Num.hexN k n=Num.hexN g (m / 16) ++(b :: acc):=by rw[HA.out,hstep,hbb,sV];rfl
  have HF:=ah hfin;by_cases h9:m % 16<10
  ·have hbv:(b.toNat:Int)=48+(m:Int) % 16:=by
    rw[<-hbb];unfold Num.hexd;rw[rY h9,dig_toNat h9];omega
   have hcv:=fun wx=>conv_one wx (48+(m:Int) % 16) b hbv
   have h9':(m:Int) % 16<=9:=by omega
   clear hbb hfin hstep hbv h9;go_wp2
   go_roundg g
   case measure=>omega
   exact⟨j+1,m / 16,b :: acc,by have:=HJ.out;omega,by omega,by simp[HAL.out],by go_num,by rw[str_app];rfl,by go_num,HF.out,HB.alloc HB.size _⟩
  have hbv:(b.toNat:Int)=97+(m:Int) % 16 - 10:=by
   rw[<-hbb];unfold Num.hexd;rw[rU h9]
   have:(UInt8.ofNat (87+m % 16)).toNat=87+m % 16:=by simp;omega
   rw[this];omega
  have hcv:=fun wx=>conv_one wx (97+(m:Int) % 16 - 10) b hbv
  have h9':(9:Int)<(m:Int) % 16:=by omega
  clear hbb hfin hstep hbv h9;go_wp2
  go_roundg g
  case measure=>omega
  exact⟨j+1,m / 16,b :: acc,by have:=HJ.out;omega,by omega,by simp[HAL.out],by go_num,by rw[str_app];rfl,by go_num,HF.out,HB.alloc HB.size _⟩
theorem undef_nil (b:Bool):(some undef=some (Value.bool b))=False:=by simp[undef]
theorem block_of_add (a:Addr) (n:Nat):(a.add n).block=a.block:=by unfold Addr.add;split<;>rfl
def Reads (w:World) (B size:Nat) (A:Option Addr) (n:Nat) (xs:List Value):Prop:=
 xs.length=n*size/\(0<n-> ∃b off,A=some ⟨b,off,none⟩/\b<B/\ ∀j u,xs[j]?=some u->w.cell? ⟨b,off+j,none⟩=some u)
section
variable {w w':World} {B B' size n:Nat} {A:Option Addr} {xs:List Value}
theorem Reads.none_:Reads w B size A 0 []:=⟨by simp,fun h=>absurd h (by omega)⟩
theorem Reads.at_ {k:Nat} (h:Reads w B 1 A n xs) (hk:k<n): ∃b off u,A=some ⟨b,off,none⟩/\b<B/\xs[k]?=some u/\w.cell? ⟨b,off+k,none⟩=some u:=by
 obtain⟨b,off,e,hb,hc⟩:=h.2 (by omega)
 have hl:k<xs.length:=by have:=h.1;omega
 exact⟨b,off,xs[k],e,hb,ay hl,hc k _ (ay hl)⟩
theorem Reads.keep (h:Reads w B size A n xs) (hk: ∀p:Addr,p.block<B->w'.cell? p=w.cell? p):Reads w' B size A n xs:=
 ⟨h.1,fun hn=>by
  obtain⟨b,off,e,hb,hc⟩:=h.2 hn
  exact⟨b,off,e,hb,fun j u hu=>(hk _ hb).trans (hc j u hu)⟩⟩
theorem Reads.more (h:Reads w B size A n xs) (hB:B<=B'):Reads w B' size A n xs:=
 ⟨h.1,fun hn=>by
  obtain⟨b,off,e,hb,hc⟩:=h.2 hn
  exact⟨b,off,e,by omega,hc⟩⟩
theorem Reads.below (h:Reads w B size A n xs) (hb:Below B w w'):Reads w' B size A n xs:=h.keep fun _ hp=>hb.cell hp
theorem Reads.of_own {base:Nat} {e:TypeId} {c:Nat} (h:w.ownsRow base e size (.slice A n c) n xs):Reads w w.heap.size size A n xs:=by
 refine⟨h.1,fun hn=> ?_⟩
 obtain⟨g,cap,hv,_,hlt⟩:=h.form hn;have hA:A=some ⟨g,0,none⟩:=by injection hv
 subst hA;refine⟨g,0,rfl,hlt,fun j u hu=> ?_⟩
 have:=h.cells (g:=g) rfl j u hu
 have e:(⟨g,0,none⟩:Addr).add j=⟨g,0+j,none⟩:=by unfold Addr.add;split<;>simp_all
 rwa [e]at this
end
def Blk (w:World) (g:Nat) (t:TypeId) (cs:Array Value):Prop:=w.heap[g]?=some (.cells cs t (0,0))
section
variable {w w':World} {g:Nat} {t:TypeId} {cs:Array Value}
theorem Blk.lt (h:Blk w g t cs):g<w.heap.size:=by
 rcases wW g w.heap.size with hlt|hge
 ·exact hlt
 unfold Blk at h;rw[xY hge]at h;cases h
theorem Blk.cell (h:Blk w g t cs) (i:Nat):w.cell? ⟨g,i,none⟩=cs[i]?:=cell_of_row w g i cs t (0,0) h
theorem Blk.frozen (h:Blk w g t cs) (i:Nat):w.frozen? ⟨g,i,none⟩=false:=by
 unfold Blk at h;simp[World.frozen?,h]
theorem Blk.new (w:World) (t:TypeId) (cs:Array Value):Blk (w.alloc (.cells cs t)) w.heap.size t cs:=heap_alloc_new w _
theorem Blk.alloc (h:Blk w g t cs) (o:Obj):Blk (w.alloc o) g t cs:=(Below.heap_alloc w o g h.lt).trans h
theorem Blk.set_ (h:Blk w g t cs) (i:Nat) (u:Value):Blk (w.setCell ⟨g,i,none⟩ u) g t (cs.setIfInBounds i u):=by
 unfold Blk at h⊢;simp[World.setCell,Ah,h]
theorem Blk.far (h:Blk w g t cs) {p:Addr} (hp:g≠p.block) (u:Value):Blk (w.setCell p u) g t cs:=(Below.heap_setCell w p u g hp).trans h
theorem Blk.below {B:Nat} (h:Blk w g t cs) (hb:Below B w w') (hg:g<B):Blk w' g t cs:=(hb.block g hg).trans h
theorem Blk.grown {row:Option Nat} (h:Blk w g t cs) (hb:w.grownBy w' row) (hg:some g≠row):Blk w' g t cs:=(hb.block g h.lt hg).trans h
theorem Blk.ne_ {g':Nat} {t':TypeId} {cs':Array Value} (h:Blk w g t cs) (h':Blk w g' t' cs') (hne:t≠t'):g≠g':=by
 rintro rfl;unfold Blk at h h';rw[h]at h'
 injection h' with h'
 injection h' with _ ht
 exact hne ht
theorem own_blk_ne {base:Nat} {e:TypeId} {size n:Nat} {v:Value} {xs:List Value} (h:w.ownsRow base e size v n xs) (hg:Blk w g t cs) (hne:e≠t):v.ownBlock≠some g:=by
 rcases h.2 with⟨rfl,_⟩|⟨g',cap,cur,rfl,_,hh,_⟩
 ·simp[Value.ownBlock]
 intro he;have:g'=g:=by simpa[Value.ownBlock] using he
 subst this;exact Blk.ne_ (t:=e) hh hg hne rfl
end
theorem quiet_add_same {P:Program} {f:FuncId} {args:Array Value} {w:World} {a n:Nat} {v:Value}
  (h:Calls P f args (w.drewN (a+n)) fun e w'=>e=.returned v/\w'=w.drewN (a+n)):
  Calls P f args (w.drewN (a+n)) fun e w''=>e=.returned v/\ ∃m,w''=w.drewN (a+m):=
 h.mono fun _ _ ⟨he,hm⟩=>⟨he,n,hm⟩
theorem own_form {w:World} {base e size n:Nat} {v:Value} {xs:List Value} (h:w.ownsRow base e size v n xs): ∃A c,v=.slice A n c:=by
 rcases h.2 with⟨rfl,rfl⟩|⟨g,cap,cur,rfl,_⟩
 ·exact⟨_,_,rfl⟩
 exact⟨_,_,rfl⟩
theorem own_blocks {w:World} {base e size n:Nat} {v:Value} {xs:List Value} (h:w.ownsRow base e size v n xs): ∀i,v.ownBlock=some i->base<=i/\ ∃c,w.heap[i]?=some (.cells c e (0,0)):=fun i he=>by
 refine⟨(h.lt i he).1, ?_⟩
 rcases h.2 with⟨hv,_⟩|⟨g,cap,cur,hv,_,hh,_⟩
 ·rw[hv]at he;simp[Value.ownBlock]at he
 rw[hv]at he;simp[Value.ownBlock]at he;subst he;exact⟨_,hh⟩
theorem own_kept_ty {w w':World} {base e size n:Nat} {row:Option Nat} {v:Value} {xs:List Value} (h:w.ownsRow base e size v n xs) (hg:w.grownBy w' row) (hty: ∀g c t fz,row=some g->w.heap[g]?=some (.cells c t fz)->t≠e):w'.ownsRow base e size v n xs:=by
 refine h.kept hg ?_;cases hv:v.ownBlock with
 |none=>exact .inl rfl
 |some i=>
  refine .inr (fun hr=> ?_)
  obtain⟨_,c,hc⟩:=own_blocks h i hv;exact hty i c e _ hr.symm hc rfl
theorem own_base {w:World} {base base' e size n:Nat} {v:Value} {xs:List Value} (h:w.ownsRow base e size v n xs) (hb:base'<=base):w.ownsRow base' e size v n xs:=by
 refine⟨h.1, ?_⟩
 rcases h.2 with hn|⟨g,cap,cur,rfl,hg,rest⟩
 ·exact .inl hn
 exact .inr ⟨g,cap,cur,rfl,by omega,rest⟩
theorem below_drewN {B:Nat} {a w:World} (h:Below B a w) (n:Nat):Below B a (w.drewN n):=⟨h.os,h.tape,h.output,h.size,h.block⟩
theorem only_refl (w:World) (row:Option Nat):w.grownBy w row:=World.grownBy.refl w _
theorem only_trans {a b c:World} {row:Option Nat} (h:a.grownBy b row) (k:b.grownBy c row):a.grownBy c row:=
 ⟨k.os.trans h.os,k.tape.trans h.tape,k.output.trans h.output,rV h.size k.size,fun i hi hne=>(k.block i (sZ hi h.size) hne).trans (h.block i hi hne)⟩
theorem only_drewN {a w:World} {row:Option Nat} (h:a.grownBy w row) (n:Nat):a.grownBy (w.drewN n) row:=⟨h.os,h.tape,h.output,h.size,h.block⟩
theorem only_drew {a w:World} {row:Option Nat} (h:a.grownBy w row):a.grownBy w.drew row:=⟨h.os,h.tape,h.output,h.size,h.block⟩
theorem only_alloc {a w:World} {row:Option Nat} (h:a.grownBy w row) (o:Obj):a.grownBy (w.alloc o) row:=
 ⟨h.os,h.tape,h.output,rV h.size (by simp),fun i hi hne=>(Below.heap_alloc w o i (sZ hi h.size)).trans (h.block i hi hne)⟩
theorem only_setCell {a w:World} {g:Nat} (h:a.grownBy w (some g)) {p:Addr} (hp:p.block=g\/a.heap.size<=p.block) (u:Value):a.grownBy (w.setCell p u) (some g):=
 ⟨h.os,h.tape,h.output,by simpa[World.setCell] using h.size,fun i hi hne=>(Below.heap_setCell w p u i (by
  rintro rfl
  rcases hp with hp|hp
  ·exact hne (by rw[hp])
  omega)).trans (h.block i hi hne)⟩
theorem only_of_below {a w:World} (h:Below a.heap.size a w) (row:Option Nat):a.grownBy w row:=⟨h.os,h.tape,h.output,h.size,fun i hi _=>h.block i hi⟩
theorem only_below {a b w:World} {row:Option Nat} (h:a.grownBy b row) (k:Below b.heap.size b w):a.grownBy w row:=only_trans h (only_of_below k row)
theorem only_bel {a m w:World} {B g:Nat} (h:a.grownBy m (some g)) (k:Below B m w) (hB:a.heap.size<=B):a.grownBy w (some g):=
 ⟨k.os.trans h.os,k.tape.trans h.tape,k.output.trans h.output,rV h.size k.size,fun i hi hne=>(k.block i (by omega)).trans (h.block i hi hne)⟩
theorem only_new {a m w:World} {g:Nat} {row:Option Nat} (h:a.grownBy m (some g)) (k:m.grownBy w row) (hr: ∀i,row=some i->a.heap.size<=i):a.grownBy w (some g):=
 ⟨k.os.trans h.os,k.tape.trans h.tape,k.output.trans h.output,rV h.size k.size,fun i hi hne=>(k.block i (sZ hi h.size) (fun e=>by have:=hr i e.symm;omega)).trans (h.block i hi hne)⟩
theorem ret_eq {a b:Value} (h:a=b):Ending.returned a=Ending.returned b:=by rw[h]
theorem int_eq {k:IntKind} {a b:Int} (h:a=b):Value.int k a=Value.int k b:=by rw[h]
theorem get_at (s:ByteArray) (i:Nat) (h:i<s.size):s.get! i=s[i]'h:=by
 simp[ByteArray.get!,xJ,h];rfl
theorem get_list (s:ByteArray) (i:Nat) (h:i<s.size):s.data.toList[i]?=some (s[i]'h):=Lib.data_getElem? s i h
theorem decode_high (s:ByteArray) (i:Nat) (h:i<s.size) (hc:128<=(s[i]'h).toNat):
  128<=(Utf8.decode s i).1/\(Utf8.decode s i).1<=1114111/\Utf8.valid (((Utf8.decode s i).1:Nat):Int)=true/\1<=(Utf8.decode s i).2/\i+(Utf8.decode s i).2<=s.size/\
  ∀j,i<=j->j<i+(Utf8.decode s i).2->128<=(s.get! j).toNat:=by
 have e0:128<=(s.get! (i+0)).toNat:=by rw[vw,get_at s i h];exact hc
 have hv:Utf8.valid ((65533:Nat):Int)=true:=by decide
 have e00:(s.get! (i+0)).toNat=(s.get! i).toNat:=rfl
 have one: ∀j,i<=j->j<i+1->128<=(s.get! j).toNat:=fun j h1 h2=>by
  obtain rfl:j=i:=by omega
  simpa using e0
 unfold Utf8.decode;simp only[Utf8.runeError];rw[rU (by omega)]
 split
 ·rename_i h2
  simp only[uy,uw,tX]at h2;obtain⟨a1,a2,a3⟩:=h2
  split
  ·refine⟨by simp;omega,by simp;omega, ?_,by simp,by simp;omega,fun j h1 h2=> ?_⟩
   ·simp[Utf8.valid];omega
   have:j=i+0\/j=i+1:=by simp at h2;omega
   rcases this with rfl|rfl<;>omega
  exact⟨by simp,by simp,hv,by simp,by simp;omega,one⟩
 split
 ·rename_i h2
  simp only[uy,uw,tX]at h2;obtain⟨⟨a1,a2,a3⟩,a4,a5⟩:=h2
  split
  ·rename_i hv2
   simp only[ge_iff_le,uy,tX]at hv2
   refine⟨by simp;omega,by simp;omega,hv2.2,by simp,by simp;omega,fun j h1 h2=> ?_⟩
   have:j=i+0\/j=i+1\/j=i+2:=by simp at h2;omega
   rcases this with rfl|rfl|rfl<;>omega
  exact⟨by simp,by simp,hv,by simp,by simp;omega,one⟩
 split
 ·rename_i h2
  simp only[uy,uw,tX]at h2;obtain⟨⟨⟨a1,a2,a3⟩,a4,a5⟩,a6,a7⟩:=h2
  split
  ·rename_i hv2
   simp only[ge_iff_le,uy,tX]at hv2
   have hm:(s.get! (i+0)).toNat % 8*262144+(s.get! (i+1)).toNat % 64*4096+(s.get! (i+2)).toNat % 64*64+(s.get! (i+3)).toNat % 64<=1114111:=by
    have:=hv2.2;simp only[Utf8.valid,wu,uy,tX]at this;omega
   refine⟨by simp;omega,by simpa using hm,hv2.2,by simp,by simp;omega,fun j h1 h2=> ?_⟩
   have:j=i+0\/j=i+1\/j=i+2\/j=i+3:=by simp at h2;omega
   rcases this with rfl|rfl|rfl|rfl<;>omega
  exact⟨by simp,by simp,hv,by simp,by simp;omega,one⟩
 exact⟨by simp,by simp,hv,by simp,by simp;omega,one⟩
theorem encode_high (r:Nat) (h:128<=r):2<=(Utf8.encode (r:Int)).size/\(Utf8.encode (r:Int)).size<=4/\128<=((Utf8.encode (r:Int)).get! ((Utf8.encode (r:Int)).size - 1)).toNat:=by
 unfold Utf8.encode;simp only[Utf8.runeError]
 split<;>(try rename_i hv)
 ·simp only[zW]
  rw[rU (by omega)]
  split
  ·exact⟨(by show 2<=2;omega),(by show 2<=4;omega),(by show 128<=(UInt8.ofNat (128+r % 64)).toNat;simp;omega)⟩
  split
  ·exact⟨(by show 2<=3;omega),(by show 3<=4;omega),(by show 128<=(UInt8.ofNat (128+r % 64)).toNat;simp;omega)⟩
  exact⟨(by show 2<=4;omega),(by show 4<=4;omega),(by show 128<=(UInt8.ofNat (128+r % 64)).toNat;simp;omega)⟩
 decide
theorem indexByte_take (l:List UInt8) (c:UInt8):(Lib.indexByte l c= -1/\ ∀x∈l,x≠c)\/ ∃(n:Nat) (r:List UInt8),Lib.indexByte l c=(n:Int)/\l=l.take n++c :: r/\(∀x∈l.take n,x≠c)/\n<l.length:=by
 induction l with
 |nil=>exact .inl ⟨rfl,fun x hx=>by cases hx⟩
 |cons a l ih=>
  rw[Lib.indexByte];by_cases h:a=c
  ·subst h
   exact .inr ⟨0,l,by simp,by simp,by simp,by simp⟩
  have hb:(a == c)=false:=by simpa using h
  rw[hb]
  rcases ih with⟨h1,h2⟩|⟨n,r,h1,h2,h3,h4⟩
  ·refine .inl ⟨by simp[h1],fun x hx=> ?_⟩
   rcases uD.1 hx with rfl|hx
   ·exact h
   exact h2 x hx
  refine .inr ⟨n+1,r, ?_, ?_, ?_,by simp;omega⟩
  ·rw[h1,rU (by simp),rU (fun e=>by have:=uw.1 e;omega)];simp
  ·rw[wQ,uG,<-h2]
  intro x hx;rw[wQ]at hx
  rcases uD.1 hx with rfl|hx
  ·exact h
  exact h3 x hx
end Go.Proofs.YtanlehkalkafdaaGreatDoor
namespace Go.Proofs.YtanlehkalkafdaaGreatDoor
open Go.RowKit
theorem dig36_fin: ∀d:Fin 16,(({data:= #[48,49,50,51,52,53,54,55,56,57,97,98,99,100,101,102,103,104,105,106,107,108,109,110,111,112,113,114,115,116,117,118,119,120,121,122]}:ByteArray).data.toList)[d.val]?=some (Num.hexd d.val):=by decide+kernel
theorem dig36 (d:Nat) (h:d<16) (h':d<({data:= #[48,49,50,51,52,53,54,55,56,57,97,98,99,100,101,102,103,104,105,106,107,108,109,110,111,112,113,114,115,116,117,118,119,120,121,122]}:ByteArray).size):({data:= #[48,49,50,51,52,53,54,55,56,57,97,98,99,100,101,102,103,104,105,106,107,108,109,110,111,112,113,114,115,116,117,118,119,120,121,122]}:ByteArray)[d]'h'=Num.hexd d:=by
 have h1:=dig36_fin ⟨d,h⟩
 have h2:=Lib.data_getElem? ({data:= #[48,49,50,51,52,53,54,55,56,57,97,98,99,100,101,102,103,104,105,106,107,108,109,110,111,112,113,114,115,116,117,118,119,120,121,122]}:ByteArray) d h'
 exact tN (h2.symm.trans h1)
theorem hexN_cons: ∀(j x:Nat),Num.hexN (j+1) x=Num.hexd (x / 16 ^ j % 16) :: Num.hexN j x
 |0,x=>by simp[Num.hexN]
 |j+1,x=>by
  have h:=hexN_cons j (x / 16);rw[Num.hexN,h,Num.hexN,Nat.div_div_eq_div_mul,vN,xu 16]
  rfl
def Tail (cs:Array Value) (x j:Nat):Prop:=cs.size=65/\ ∀t,t<j-> ∃c,(Num.hexN j x)[t]?=some c/\cs[65 - j+t]?=some (.int .u8 (c.toNat:Int))
theorem Tail.next {cs:Array Value} {x j:Nat} (h:Tail cs x j) (hj:j<65) {c:UInt8} (hc:Num.hexd (x / 16 ^ j % 16)=c):Tail (cs.setIfInBounds (65 - j - 1) (.int .u8 (c.toNat:Int))) x (j+1):=by
 refine⟨by simp[h.1],fun t ht=> ?_⟩
 rw[hexN_cons,hc];cases t with
 |zero=>
  refine⟨c,rfl, ?_⟩
  rw[show 65 -(j+1)+0=65 - j - 1 by omega,Array.getElem?_setIfInBounds_self_of_lt (by rw[h.1];omega)]
 |succ t=>
  obtain⟨d,h1,h2⟩:=h.2 t (by omega)
  refine⟨d,h1, ?_⟩;rw[Ae (by omega),show 65 -(j+1)+(t+1)=65 - j+t by omega]
  exact h2
theorem formatBits_any (x:Nat) (w:World) (hL:Laid w) (h0:4503599627370496<=x) (h1:x<9007199254740992):
  Calls Tryz.prog 194 #[.slice none 0 0,.int .u64 x,.int .i64 16,.bool false,.bool false] w fun e w'=>e=.returned (.tuple #[.slice none 0 0,.string ⟨(Num.hexN 14 x).toArray⟩])/\Below w.heap.size w w':=by
 have HT:=ah (fun(W:World) (hb:Below w.heap.size w W)=>tz16_any W (hL.below hb))
 have HP:=ah pow16_any;have hx':(x:Int)<=18446744073709551615:=by omega
 clear hL;go_enter Tryz.func194,Tryz.ntmps194;go_wp2_with fail;refine(HP.out _).mono ?_
 rintro e w' ⟨rfl,rfl⟩;go_wp2_with fail
 refine(HT.out _ ((Below.refl _ _).alloc (rM _) _)).mono ?_;rintro e w' ⟨rfl,rfl⟩
 obtain⟨cs0,hcs0⟩:=aj Tryz.zeroCells282;have hc0:cs0.size=65:=by rw[<-hcs0];kernel_rfl
 have hb0:Blk (w.alloc (.cells cs0 282)) w.heap.size 282 cs0:=Blk.new _ _ _
 have hbl0:Below w.heap.size w (w.alloc (.cells cs0 282)):=(Below.refl _ _).alloc (rM _) _
 rw[hcs0]
 generalize w.alloc (.cells cs0 282)=W0 at*
 have HC0:=ah hc0;have HB0:=ah hb0;have HBL:=ah hbl0;clear hcs0 hc0 hb0 hbl0;go_wp2
 go_loopg [1,13] 13 (fun g u i wr=> ∃(j:Nat) (cs:Array Value),j+g=13/\u=.int .u64 (x / 16 ^ j:Nat)/\i=.int .i64 (65 -(j:Int))/\Blk wr w.heap.size 282 cs/\Tail cs x j/\Below w.heap.size w wr)
 case atStart=>exact⟨0,cs0,by omega,by simp,by simp,HB0.out,⟨HC0.out,fun t ht=>by omega⟩,HBL.out⟩
 obtain⟨j,cs,hj,rfl,rfl,hb,htl,hbl⟩:=hrel;have HJ:=ah hj;have HB:=ah hb;have HTL:=ah htl
 have HBL':=ah hbl;clear hj hb htl hbl;cases gk with
 |zero=>
  obtain rfl:j=13:=by have:=HJ.out;omega
  obtain⟨u,hu⟩:=aj (x / 16 ^ 13)
  have hu1:u=1:=by
   have e:(16:Nat) ^ 13=4503599627370496:=by decide
   rw[e]at hu;omega
  subst hu1;rw[hu];have htn:=HTL.next (c:=49) (by omega) (by rw[hu];decide)
  obtain⟨v0,hv0⟩: ∃v,cs[51]?=some v:=⟨_,vK (by rw[HTL.out.1];omega)⟩
  have hcell:=(HB.cell 51).trans hv0;have hfz:=HB.frozen 51
  have hbn:=HB.set_ 51 (.int .u8 ((49:UInt8).toNat:Int))
  have hconv:=fun(q:Value)=>run_convert_bytes_back (P:=Tryz.prog) (wr.setCell ⟨w.heap.size,51,none⟩ (.int .u8 49)) 104 9 5 ⟨w.heap.size,51,none⟩ 14 (Num.hexN 14 x) Tryz.underlying104 Tryz.underlying5 Tryz.underlying9 (fun k hk=>by
   rw[Num.hexN_len]at hk;obtain⟨d,h1,h2⟩:=htn.2 k hk;have h3:=hbn.cell (51+k)
   have e:(⟨w.heap.size,51,none⟩:Addr).add k=⟨w.heap.size,51+k,none⟩:=by unfold Addr.add;split<;>simp_all
   rw[e];refine h3.trans ?_;rw[show 51+k=65 -(13+1)+k by omega]
   obtain⟨hlt,he⟩:=rZ.1 h1;refine h2.trans ?_
   rw[<-he])
  have hcv:=hconv undef;rw[Num.hexN_len]at hcv
  have HFB:=ah (HBL'.out.setCell (p:=⟨w.heap.size,51,none⟩) (rM _) (.int .u8 49))
  have hdig:=dig36 1 (by decide)
  rw[show Num.hexd 1=49 from by decide]at hdig
  clear hu hv0 htn hbn hconv;go_wp2
  go_ret2
  exact⟨rfl,HFB.out⟩
 |succ g=>
  have hj12:j<=12:=by have:=HJ.out;omega
  obtain⟨u,hu⟩:=aj (x / 16 ^ j)
  have hu16:16<=u:=by
   rw[<-hu,Nat.le_div_iff_mul_le (yM (by decide))]
   have:16 ^(j+1)<=16 ^ 13:=vY (by decide) (by omega)
   have e:(16:Nat) ^ 13=4503599627370496:=by decide
   rw[vN]at this;omega
  have hux:u<=x:=by rw[<-hu];exact Bl _ _
  have hub:(u:Int)<=9007199254740992:=by omega
  have hu16':(16:Int)<=u:=by omega
  have hd:decide ((16:Int)<=u)=true:=rQ hu16'
  have hand:bits BinOp.and IntKind.u64 (u:Int) 15=((u % 16:Nat):Int):=by
   rw[show(15:Int)=((15:Nat):Int) from rfl,bits_and_u64_nat u 15 (by omega) (by omega),show(15:Nat)=2 ^ 4 - 1 from rfl,yK]
  rw[hu];have hjb:(j:Int)<=12:=by omega
  obtain⟨d,hdd⟩:=aj (u % 16);have hd16:d<16:=by omega
  rw[hdd]at hand;have HU:=ah hu;have HDD:=ah hdd
  obtain⟨v0,hv0⟩: ∃v,cs[65 - j - 1]?=some v:=⟨_,vK (by rw[HTL.out.1];omega)⟩
  have hcell:=(HB.cell (65 - j - 1)).trans hv0;have hfz:=HB.frozen (65 - j - 1)
  obtain⟨c,hc⟩:=aj (Num.hexd d);have hdig:=dig36 d hd16;rw[hc]at hdig
  have htn:=HTL.next (c:=c) (by omega) (by rw[hu,hdd];exact hc)
  have HTN:=ah htn;clear hu hdd hv0 hc htn;go_wp2
  go_roundg g
  case measure=>omega
  refine⟨j+1,_,by have:=HJ.out;omega,int_eq' ?_,int_eq' (by omega),HB.set_ (65 - j - 1) _,HTN.out,HBL'.out.setCell (p:=⟨w.heap.size,65 - j - 1,none⟩) (rM _) _⟩
  rw[vN,<-Nat.div_div_eq_div_mul,HU.out];rfl
theorem fmtUint_any (x:Nat) (w:World) (hL:Laid w) (h0:4503599627370496<=x) (h1:x<9007199254740992):
  Calls Tryz.prog 198 #[.int .u64 x,.int .i64 16] w fun e w'=>e=.returned (.string ⟨(Num.hexN 14 x).toArray⟩)/\Below w.heap.size w w':=by
 have hin:Calls Tryz.prog 234 #[.int .u64 x,.int .i64 16] w fun e w'=>e=.returned (.string ⟨(Num.hexN 14 x).toArray⟩)/\Below w.heap.size w w':=by
  have H:=ah (formatBits_any x w hL h0 h1);clear hL;go_enter Tryz.func234,Tryz.ntmps234
  go_wp2_with fail;refine H.out.mono ?_;rintro e w1 ⟨rfl,hb⟩;have HB:=ah hb;clear hb
  go_wp2;go_ret;exact⟨rfl,HB.out⟩
 have H:=ah hin;clear hL hin;go_enter Tryz.func198,Tryz.ntmps198;go_wp2_with fail
 refine H.out.mono ?_;rintro e w1 ⟨rfl,hb⟩;have HB:=ah hb;clear hb;go_wp2;go_ret
 exact⟨rfl,HB.out⟩
end Go.Proofs.YtanlehkalkafdaaGreatDoor
