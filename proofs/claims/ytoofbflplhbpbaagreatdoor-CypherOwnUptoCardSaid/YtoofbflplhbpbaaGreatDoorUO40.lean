/- Contracts and plain laws,part 40. -/
import Derived.Test.YtoofbflplhbpbaaGreatDoorUO12
import Derived.Test.YtoofbflplhbpbaaGreatDoorUO17
import Derived.Lib.FrozenHead2
import Derived.Lib.ConvBytes
set_option maxHeartbeats 64000000
set_option maxRecDepth 1000000
set_option linter.all false
namespace Go.Proofs.YtoofbflplhbpbaaGreatDoor
open Go.RowKit
theorem zh {α:Type} {f:α->List UInt8} {c:Nat}: ∀{l:List α},(∀x∈l,(f x).length<=c)->(l.flatMap f).length<=c*l.length
 | [],_=>by simp
 | a :: l,h=>by
  have h1:=h a (by simp)
  have h2:=zh (l:=l) (f:=f) (c:=c) fun x hx=>h x (by simp [hx])
  rw [adz,dA,acd,ao2];omega
theorem jR.mono {W:World} {B B':Nat} {u:Value} {v:ak.V} (h:jR W B u v) (hB:B<=B'):jR W B' u v:=by
 obtain ⟨An,cn,At,ct,e,h1,h2⟩:=h.ex
 exact ⟨⟨An,cn,At,ct,e,h1.more hB,h2.more hB⟩,h.kin,h.num,h.nums,h.tl,h.nl,h.sl,h.sz⟩
theorem ajI (l:List UInt8) (n:Nat) (h:n<l.length):Lib.trimRightS (l.take (n+1)) [48]=if l[n]'h=48 then Lib.trimRightS (l.take n) [48] else l.take (n+1):=by
 have e:l.take (n+1)=l.take n ++ [l[n]'h]:=by simp
 rw [e];exact Num.LQ _ _
theorem ajJ:Lib.trimRightS (Num.hexN 13 0) [48]= []:=by decide
theorem ajK {f:Nat} (hf:f<4503599627370496) (h:Lib.trimRightS (Num.hexN 13 f) [48]= []):f=0:=by
 obtain ⟨j,h1,_⟩:=Num.Hw _ (Num.hexN 13 f) rfl;rw [h,adI] at h1
 have h2:=Num.PU 13 f 0 (by have e:(16:Nat) ^ 13=4503599627370496:=(by decide);omega)
 rw [h1,Num.PY] at h2;have h3:=acE h2;omega
theorem ajL {f:Nat} (hf:f<4503599627370496) {tl:List UInt8} (h:Lib.trimRightS (Num.hexN 13 f) [48]=tl):Num.nG f=if tl= [] then [] else 46 :: tl:=by
 unfold Num.nG;by_cases h0:f=0
 ·subst h0
  rw [ajJ] at h;subst h;rfl
 rw [ab6 h0,h,ab6 (fun e=>h0 (ajK hf (h.trans e)))]
theorem ajM (b:Nat) (w:World) (hb:b<18446744073709551616):
  Calls Tryz.prog 76 #[.int .u64 b] w fun e w'=>e= .returned (.string ⟨(Num.fmt b).toArray⟩)/\Below w.heap.size w w':=by
 obtain ⟨a,ha⟩: ∃a,b % 9223372036854775808=a:=⟨_,rfl⟩
 obtain ⟨neg,hneg⟩: ∃n,decide (9223372036854775808<=b)=n:=⟨_,rfl⟩
 have hf:Num.fmt b=if 9218868437227405312<a then Num.tZ else Num.sg neg ++ Num.eu a:=by unfold Num.fmt;rw [ha,hneg]
 obtain ⟨SG,WZ⟩: ∃s:ByteArray,(⟨(Num.sg neg).toArray⟩:ByteArray)=s:=⟨_,rfl⟩
 have aor:SG.size<=1:=by rw [<-WZ,bf];cases neg<;> simp [Num.sg]
 have hai:(a:Int)<=9223372036854775807:=by omega
 have amG:(0:Int)<=a:=by omega
 have HA:=ah ha;have W9:=ah hneg;have Hr:=ah WZ;obtain ⟨RES,aes⟩: ∃r,Num.fmt b=r:=⟨_,rfl⟩
 rw [aes] at hf⊢;have pO:=ah hf;clear ha hneg WZ hf aes;go_enter Tryz.func76,Tryz.ntmps76
 go_upto_if 9 with fail
 go_cut [0,3] (fun s0 s3 wx=>s0= .int .u64 a/\s3= .string SG/\w=wx)
 case first=>
  by_cases hs:9223372036854775808<=b
  ·have bs:decide (9223372036854775808<=(b:Int))=true:=abW (by omega)
   have hbi:(9223372036854775808:Int)<=b:=by omega
   have aos:(b:Int)<=18446744073709551615:=by omega
   have hsg:SG=⟨#[45]⟩:=by rw [<-Hr.out,<-W9.out,abW hs];rfl
   have hv:(b:Int) - 9223372036854775808=a:=by have:=HA.out;omega
   have HV:=ah hv;have HS:=ah hsg;clear hv hsg hs hb;go_simp;go_wp2_with fail;go_meet
   exact ⟨int_eq' HV.out,by rw [HS.out],rfl⟩
  have bs:decide (9223372036854775808<=(b:Int))=false:=abX (by omega)
  have hsg:SG=⟨#[]⟩:=by rw [<-Hr.out,<-W9.out,abX hs];rfl
  have hv:(b:Int)=a:=by have:=HA.out;omega
  have HV:=ah hv;have HS:=ah hsg;clear hv hsg hs hb;go_simp;go_wp2_with fail;go_meet
  exact ⟨int_eq' HV.out,by rw [HS.out],rfl⟩
 obtain ⟨rfl,rfl,rfl⟩:=hcut;clear W9 HA;by_cases fB:9218868437227405312<a
 ·have hr:RES=Num.tZ:=by rw [pO.out,ab7 fB]
  have HR:=ah hr;clear hr
  have b2:decide (9218868437227405312<(a:Int))=true:=abW (by omega)
  clear fB hb;go_wp2;go_ret;exact ⟨by rw [HR.out];rfl,Below.refl _ _⟩
 have b2:decide (9218868437227405312<(a:Int))=false:=abX (by omega)
 by_cases dK:a=9218868437227405312
 ·have e1:Num.eu a=Num.xu:=by unfold Num.eu;rw [ab7 dK]
  have hr:RES=Num.sg neg ++ Num.xu:=by rw [pO.out,ab6 fB,e1]
  have HR:=ah hr;have b3:((a:Int) == 9218868437227405312)=true:=by rw [adp];omega
  clear fB dK e1 hb hr;go_wp2;go_ret;exact ⟨by rw [HR.out,<-Hr.out,Dp];rfl,Below.refl _ _⟩
 have b3:((a:Int) == 9218868437227405312)=false:=by rw [ab3];omega
 by_cases h0:a=0
 ·have e1:Num.eu a=Num.ZERO:=by unfold Num.eu;rw [ab6 dK,ab7 h0]
  have hr:RES=Num.sg neg ++ Num.ZERO:=by rw [pO.out,ab6 fB,e1]
  have HR:=ah hr;have b4:((a:Int) == 0)=true:=by rw [adp];omega
  clear fB dK h0 e1 hb hr;go_wp2;go_ret
  exact ⟨by rw [HR.out,<-Hr.out,Dp];rfl,Below.refl _ _⟩
 have b4:((a:Int) == 0)=false:=by rw [ab3];omega
 have e1:Num.eu a=Num.form (Num.gG a) (Num.fV a):=by unfold Num.eu;rw [ab6 dK,ab6 h0]
 have hr:RES=Num.sg neg ++ Num.form (Num.gG a) (Num.fV a):=by rw [pO.out,ab6 fB,e1]
 obtain ⟨p1,p2,p3,-,-⟩:=Num.P9 h0 (by omega)
 obtain ⟨E,hE⟩: ∃E,Num.fV a=E:=⟨_,rfl⟩;obtain ⟨f,hf⟩: ∃f,Num.gG a=f:=⟨_,rfl⟩
 rw [hE,hf] at hr;have HR:=ah hr;rw [hE] at p2 p3;rw [hf] at p1
 obtain ⟨X,hX⟩: ∃X,E+1023=X:=⟨_,rfl⟩;obtain ⟨G,hG⟩: ∃G,f+4503599627370496=G:=⟨_,rfl⟩
 have hx1:X<=2046:=by omega
 have hx2: -51<=X:=by omega
 have hg1:(G:Int)<9007199254740992:=by omega
 have hg2:(4503599627370496:Int)<=G:=by omega
 have HE:=ah hE;have HF:=ah hf;have HX:=ah hX;have HG:=ah hG;have H0:=ah h0;have HN:=ah fB
 have HI:=ah dK;have hai2:(a:Int)<=9218868437227405312:=by omega
 clear hE hf hX hG e1 h0 fB dK hb hr pO
 go_upto_if 29 with fail
 go_cut [4,5] (fun s4 s5 wx=>s4= .int .i64 X/\s5= .int .u64 G/\w=wx)
 case first=>
  clear hx1 hx2 hg1 hg2 p1 p2 p3;by_cases hx:a<4503599627370496
  ·obtain ⟨u1,u2,u3,u4⟩:=Num.LU H0.out hx
   have en:X=1 -(Num.up a:Int):=by rw [<-HX.out,<-HE.out];unfold Num.fV;rw [ab7 hx];omega
   have fn:G=a*2 ^ Num.up a:=by rw [<-HG.out,<-HF.out];unfold Num.gG;rw [ab7 hx];omega
   obtain ⟨U,hU⟩: ∃U,Num.up a=U:=⟨_,rfl⟩;rw [hU] at u1 u2 u3 u4 en fn
   have k1:(a:Int) / 4503599627370496=0:=by omega
   have ha1:(a:Int)<4503599627370496:=by omega
   have hU1:(1:Int)<=U:=by omega
   have hU2:(U:Int)<=52:=by omega
   have uV:=ah en;have Xa:=ah fn;have bH:=ah u2;have HU3:=ah u3;have HU4:=ah u4
   clear en fn hU u1 u2 u3 u4 hx;refine wp_cond_true (by simp only [k1];rfl) ?_
   go_wp2_with fail
   go_loopg [4,5] U (fun g x y wr=> ∃j:Nat,j+g=U/\x= .int .i64 (1 -(j:Int))/\y= .int .u64 ((a*2 ^ j:Nat):Int)/\w=wr)
   case atStart=>exact ⟨0,by omega,rfl,by simp,rfl⟩
   obtain ⟨j,hj,rfl,rfl,rfl⟩:=hrel;have HJ:=ah hj;clear hj;cases gk with
   | succ g=>
    have hj1:j+1<=U:=by have:=HJ.out;omega
    obtain ⟨y,hy⟩: ∃y,a*2 ^ j=y:=⟨_,rfl⟩
    have hyb:y<4503599627370496:=by
     have e1:a*2 ^(j+1)<=a*2 ^ U:=akV _ (akF (by decide) hj1)
     rw [ake,<-alD,hy] at e1;have:=HU4.out;omega
    have hy2:a*2 ^(j+1)=y*2:=by rw [ake,<-alD,hy]
    rw [hy];have HY:=ah hy2;have yi:(y:Int)<4503599627370496:=by omega
    have ji:(j:Int)<=52:=by have:=bH.out;omega
    clear hy hy2;go_wp2
    go_roundg g
    case measure=>omega
    exact ⟨j+1,by have:=HJ.out;omega,int_eq' (by omega),by rw [HY.out];exact int_eq' (by omega),rfl⟩
   | zero=>
    obtain rfl:j=U:=by have:=HJ.out;omega
    obtain ⟨y,hy⟩: ∃y,a*2 ^ j=y:=⟨_,rfl⟩;rw [hy]
    have yi:(4503599627370496:Int)<=y:=by have:=HU3.out;omega
    have dy:decide ((y:Int)<4503599627370496)=false:=abX (by omega)
    have HY:=ah hy;clear hy hai hai2 ha1 b2 b3 b4 k1;go_wp2_with fail;go_meet
    exact ⟨int_eq' uV.out.symm,int_eq' (by rw [Xa.out,HY.out]),rfl⟩
  have en:X=((a / 4503599627370496:Nat):Int):=by rw [<-HX.out,<-HE.out];unfold Num.fV;rw [ab6 hx];omega
  have fn:G=a % 4503599627370496+4503599627370496:=by rw [<-HG.out,<-HF.out];unfold Num.gG;rw [ab6 hx]
  have t1:((a:Int) / 4503599627370496 == 0)=false:=by rw [ab3];omega
  have uV:=ah en;have Xa:=ah fn;have ha1:(4503599627370496:Int)<=a:=by omega
  clear en fn hx;refine wp_cond_false (by simp only [t1];rfl) ?_
  go_wp2_with fail;go_meet
  exact ⟨int_eq' (by rw [uV.out];omega),int_eq' (by rw [Xa.out];omega),rfl⟩
 obtain ⟨rfl,rfl,rfl⟩:=hcut;have kE:X - 1023=E:=by have:=HX.out;omega
 have kG:(G:Int) - 4503599627370496=f:=by have:=HG.out;omega
 obtain ⟨iY,h13⟩: ∃h,Num.hexN 13 f=h:=⟨_,rfl⟩
 have lK:iY.length=13:=by rw [<-h13];exact Num.vw 13 f
 obtain ⟨z,hz⟩: ∃z:ByteArray,(⟨iY.toArray⟩:ByteArray)=z:=⟨_,rfl⟩
 have hzl:z.size=13:=by rw [<-hz,bf,lK]
 have hzd:z.data.toList=iY:=by rw [<-hz]
 obtain ⟨tl,htl⟩: ∃t,Lib.trimRightS iY [48]=t:=⟨_,rfl⟩
 have hfr:=ajL (tl:=tl) p1 (by rw [h13];exact htl)
 have Xb:=fun (W:World)=>afC f 13 W (by omega) (by omega)
 rw [h13,hz] at Xb;have amJ:=ah Xb;have mQ:=ah hfr;have HZD:=ah hzd;have qN:=ah lK
 have jh:=ah htl;clear hfr Xb h13 hz hzd lK htl HE HF HX HG H0 HN HI b2 b3 b4 hai hai2 amG
 go_wp2_with fail;refine (amJ.out _).mono ?_;rintro e w1 ⟨rfl,hb1⟩;have HB1:=ah hb1
 clear hb1;clear hg1 hg2 p1 kG
 go_upto_block 2 with fail
 go_cut [7] (fun s7 wx=>s7= .int .i64 (tl.length:Int)/\tl=iY.take tl.length/\w1=wx)
 case first=>
  go_wp2_with fail
  go_loopg [7] 13 (fun g x wr=>g<=13/\x= .int .i64 (g:Int)/\Lib.trimRightS (iY.take g) [48]=tl/\w1=wr)
  case atStart=>exact ⟨by omega,rfl,by rw [acg (by rw [qN.out];exact ab1 _)];exact jh.out,rfl⟩
  obtain ⟨hg,rfl,htk,rfl⟩:=hrel;have iD:=ah htk;clear htk;cases gk with
  | zero=>
   have aeu: []=tl:=iD.out;have HT:=ah aeu;clear aeu iD;go_wp2_with fail;go_meet
   exact ⟨by rw [<-HT.out];rfl,by rw [<-HT.out];rfl,rfl⟩
  | succ g=>
   have hlt:g<z.size:=by omega
   have gi:(g:Int)<=12:=by omega
   have Ls:g<iY.length:=by rw [qN.out];omega
   have hz0:z[g]'hlt=iY[g]'Ls:=by
    have h1:=Lib.data_getElem? z g hlt;rw [HZD.out,ab2 Ls] at h1;exact (acE h1).symm
   have hstep:=ajI iY g Ls;rw [iD.out] at hstep;obtain ⟨c,hc⟩: ∃c,z[g]'hlt=c:=⟨_,rfl⟩
   rw [<-hz0,hc] at hstep;by_cases h48:c=48
   ·have t5:(((z[g]'hlt).toNat:Int) == 48)=true:=by rw [hc,h48];rfl
    rw [ab7 h48] at hstep;have HS:=ah hstep;clear hstep hz0 hc h48 Ls;go_wp2
    go_roundg g
    case measure=>omega
    exact ⟨by omega,int_eq' (by omega),HS.out.symm,rfl⟩
   have t5:(((z[g]'hlt).toNat:Int) == 48)=false:=by
    rw [hc,ab3];intro e;exact h48 (ad8.1 (by show c.toNat=48;omega))
   rw [ab6 h48] at hstep
   have hlen:tl.length=g+1:=by
    rw [hstep,acW,qN.out];omega
   have HS:=ah hstep;have HLEN:=ah hlen;clear hstep hz0 hc h48 Ls hlen;go_wp2_with fail
   go_meet;exact ⟨int_eq' (by rw [HLEN.out];omega),by rw [HLEN.out];exact HS.out,rfl⟩
 obtain ⟨rfl,htk,rfl⟩:=hcut;have iD:=ah htk
 have Jm:tl.length<=13:=by
  have h1:=ab8 List.length htk;rw [acW,qN.out] at h1;omega
 obtain ⟨n,hn⟩: ∃n,tl.length=n:=⟨_,rfl⟩;rw [hn];rw [hn] at Jm;have HN:=ah hn;clear htk hn
 obtain ⟨fs,hfs⟩: ∃x,Num.nG f=x:=⟨_,rfl⟩
 have Xc:fs=if tl= [] then [] else 46 :: tl:=by rw [<-hfs];exact mQ.out
 have amK:fs.length<=14:=by
  rw [Xc]
  split
  ·simp
  rw [acd,HN.out];omega
 obtain ⟨S3,hS3⟩: ∃x:ByteArray,SG ++⟨#[48,120,49]⟩ ++⟨fs.toArray⟩=x:=⟨_,rfl⟩
 have aot:S3.size<=20:=by rw [<-hS3,adG,adG];have e:(⟨#[48,120,49]⟩:ByteArray).size=3:=rfl;have e2:(⟨fs.toArray⟩:ByteArray).size=fs.length:=bf fs;omega
 have bK:=ah hS3;have oI:=ah hfs;have aev:=ah Xc;clear hS3 hfs Xc amK mQ
 go_upto_if 56 with fail
 go_cut [3] (fun s3 wx=>s3= .string S3/\w1=wx)
 case first=>
  by_cases ht0:tl= []
  ·have hn0:n=0:=by rw [<-HN.out,ht0];rfl
   have hs:SG ++⟨#[48,120,49]⟩=S3:=by
    rw [<-bK.out,aev.out,ab7 ht0]
    apply adW
    simp
   have HS:=ah hs;subst hn0;clear hs ht0;go_wp2_with fail;go_meet
   exact ⟨by rw [HS.out],rfl⟩
  have hn1:0<n:=by
   have:tl.length≠0:=fun e=>ht0 (acD e)
   rw [HN.out] at this;omega
  have hn2:(1:Int)<=n:=by omega
  have hext:z.extract 0 n=⟨tl.toArray⟩:=by
   apply adW
   apply amU.1
   rw [Lib.extract_data,HZD.out];have:=iD.out;rw [HN.out] at this;rw [this];simp
  have hs:SG ++⟨#[48,120,49]⟩ ++⟨#[46]⟩ ++ z.extract 0 n=S3:=by
   rw [<-bK.out,aev.out,ab6 ht0,hext]
   apply adW
   simp
  have HS:=ah hs;clear hs ht0 hext;have aou:n<=z.size:=by omega
  go_wp2_with fail;go_meet;exact ⟨by rw [HS.out],rfl⟩
 obtain ⟨rfl,rfl⟩:=hcut;by_cases hneg:E<0
 ·obtain ⟨m,hm⟩: ∃m:Nat,-E=(m:Int):=⟨(-E).toNat,by omega⟩
  obtain ⟨r,hr⟩: ∃r,Lib.decDigits m=r:=⟨_,rfl⟩
  have hrl:r.length<=20:=by rw [<-hr,Num.xq];exact yZ 19 m (by omega)
  have hex:Num.fU E=109 :: r:=by
   unfold Num.fU;rw [ab7 hneg,hm,Lib.itoa_nonneg,hr]
  have Xd:=ah hex;have Gv:=ah (fun (W:World)=>hr▸Md m W (by omega))
  have te4:(m:Int)<=2000:=by omega
  have te0:(0:Int)<=m:=by omega
  have te1:E<= -1:=by omega
  clear hr hex;go_wp2_with fail;refine (Gv.out _).mono ?_;rintro e w2 ⟨rfl,hb2⟩
  have HB2:=ah hb2;clear hb2 hm;go_wp2;go_ret
  refine ⟨?_,HB1.out.trans (HB2.out.mono HB1.out.size)⟩;rw [HR.out,<-bK.out,<-Hr.out]
  unfold Num.form;rw [Xd.out,oI.out]
  exact ab8 (fun q=>Ending.returned (Value.string q)) (by apply adW;simp)
 obtain ⟨m,hm⟩: ∃m:Nat,E=(m:Int):=⟨E.toNat,by omega⟩
 subst hm;obtain ⟨r,hr⟩: ∃r,Lib.decDigits m=r:=⟨_,rfl⟩
 have hrl:r.length<=20:=by rw [<-hr,Num.xq];exact yZ 19 m (by omega)
 have hex:Num.fU (m:Int)=112 :: r:=by
  unfold Num.fU;rw [ab6 hneg,Lib.itoa_nonneg,hr]
 have Xd:=ah hex;have Gv:=ah (fun (W:World)=>hr▸Md m W (by omega))
 have te0:(0:Int)<=m:=by omega
 clear hr hex hneg;go_wp2_with fail;refine (Gv.out _).mono ?_;rintro e w2 ⟨rfl,hb2⟩
 have HB2:=ah hb2;clear hb2;go_wp2;go_ret
 refine ⟨?_,HB1.out.trans (HB2.out.mono HB1.out.size)⟩;rw [HR.out,<-bK.out,<-Hr.out]
 unfold Num.form;rw [Xd.out,oI.out]
 exact ab8 (fun q=>Ending.returned (Value.string q)) (by apply adW;simp)
def fA (B:Nat) (v:Value) (l:List UInt8) (w:World):Prop:=
 ∃g cap cur fz,v= .slice (some ⟨g,0,none⟩) l.length cap/\B<=g/\w.heap[g]?=some (.cells cur 5 fz)/\(fz.2<=l.length\/cap<=fz.1)/\l.length<=cap/\cap<=maxLen/\cur.size=cap/\cur.toList.take l.length=Lib.byteCells l
theorem fA.form {B:Nat} {v:Value} {l:List UInt8} {w:World} (h:fA B v l w): ∃A c,v= .slice A l.length c:=by
 obtain ⟨g,cap,_,_,e,_⟩:=h;exact ⟨_,_,e⟩
theorem fA.lt {B:Nat} {v:Value} {l:List UInt8} {w:World} (h:fA B v l w): ∀k,v.ownBlock=some k->B<=k/\k<w.heap.size:=by
 obtain ⟨g,cap,cur,fz,rfl,hb,hg,_⟩:=h;intro k hk;simp only [Value.ownBlock,ads] at hk
 subst hk;exact ⟨hb,(acI.1 hg).1⟩
theorem fA.below {B:Nat} {v:Value} {l:List UInt8} {w w':World} (h:fA B v l w) (hb:Below w.heap.size w w'):fA B v l w':=by
 obtain ⟨g,cap,cur,fz,rfl,hB,hg,rest⟩:=h
 exact ⟨g,cap,cur,fz,rfl,hB,(hb.block g (acI.1 hg).1).trans hg,rest⟩
theorem fA.conv {B:Nat} {v:Value} {l:List UInt8} {w:World} (h:fA B v l w):(convert 55 9 v).run Tryz.prog w= .ok (.string ⟨l.toArray⟩) w:=by
 obtain ⟨g,cap,cur,fz,rfl,hb,hg,_,h1,h2,h3,h4⟩:=h
 refine run_convert_bytes_back (P:=Tryz.prog) w 55 9 5 ⟨g,0,none⟩ cap l Tryz.underlying55 Tryz.underlying5 Tryz.underlying9 (fun j hj=> ?_)
 rw [y7]
 have e:(Lib.byteCells l)[j]?=some (.int .u8 (l[j].toNat:Int)):=by simp [Lib.byteCells,ab2 hj]
 rw [<-h4,am6,ab7 hj] at e;simp only [World.cell?,hg,akA]
 simpa using e
theorem fA.cell {B:Nat} {v:Value} {l:List UInt8} {w:World} (h:fA B v l w) {g:Nat} (hg:v.ownBlock=some g): ∀j u,(Lib.byteCells l)[j]?=some u->w.cell? ((⟨g,0,none⟩:Addr).add j)=some u:=by
 obtain ⟨g',cap,cur,fz,rfl,hb,hg',_,h1,h2,h3,h4⟩:=h;simp only [Value.ownBlock,ads] at hg
 subst hg;intro j u hu;rw [y7]
 have hj:j<l.length:=by
  have:=(acy.1 hu).1
  simpa [Lib.byteCells] using this
 rw [<-h4,am6,ab7 hj] at hu;simp only [World.cell?,hg',akA]
 simpa using hu
theorem fA.made (w:World) (B:Nat) (s:ByteArray) (hB:B<=w.heap.size) (hl:s.size<=maxLen):fA B (.slice (some ⟨w.heap.size,0,none⟩) s.size (grownCap w s.size 0 5)) s.data.toList (Lib.bytesWorld w 5 s):=by
 have hge:=grownCap_ge w s.size 0 5;have hcm:=grownCap_le_maxLen w s.size 0 5 hl
 have hsz:(Lib.bytesCells w 5 s).size=grownCap w s.size 0 5:=by
  have e:s.data.size=s.size:=rfl
  simp only [Lib.bytesCells,aoP,Array.size_map,Array.size_replicate,e];omega
 refine ⟨w.heap.size,_,_,_,by rw [Lib.size_eq],hB,Lib.bytesWorld_at_new w _ s, .inr (by rw [hsz];exact ab1 _),by rw [<-Lib.size_eq];exact hge,hcm,hsz, ?_⟩
 have e:(Lib.bytesCells w 5 s).toList=Lib.byteCells s.data.toList ++ List.replicate (grownCap w s.size 0 5 - s.size) (.int .u8 0):=by
  simp [Lib.bytesCells,Lib.byteCells]
 rw [e]
 have hl2:s.data.toList.length=(Lib.byteCells s.data.toList).length:=by simp [Lib.byteCells]
 rw [hl2];exact alJ
theorem bytesWorld_below (w:World) (s:ByteArray):Below w.heap.size w (Lib.bytesWorld w 5 s):=
 ⟨rfl,rfl,rfl,by rw [Lib.bytesWorld_size];omega,fun i hi=>Lib.bytesWorld_at_old w _ s i hi⟩
theorem abD (P:Program) (g o:Nat) (t:TypeId) (fz:Nat×Nat): ∀(vs:List Value) (i:Nat) (cur:Array Value) (w:World),w.heap[g]?=some (.cells cur t fz)->(fz.2<=o+i\/o+i+vs.length<=fz.1)->o+i+vs.length<=cur.size->(∀v∈vs,v.oneCell'=true)->
  (storeCells ⟨g,o,none⟩ vs i).run P w= .ok () (w.setRow g (cur.toList.take (o+i) ++ vs ++ cur.toList.drop (o+i+vs.length)).toArray)
 | [],i,cur,w,hg,_,_,_=>by
  simp only [storeCells,acK,adk,akz,adE,Array.toArray_toList]
  rw [setRow_self w g cur t fz hg];rfl
 | v :: rest,i,cur,w,hg,hfz,hl,h1=>by
  have hi:o+i<cur.size:=by simp at hl;omega
  have hadd:(⟨g,o,none⟩:Addr).add i=⟨g,o+i,none⟩:=by unfold Addr.add;split<;> simp_all
  have hcell:w.cell? ⟨g,o+i,none⟩=some cur[o+i]:=by simp [World.cell?,hg,hi]
  have hfro:w.frozen? ⟨g,o+i,none⟩=false:=by
   obtain ⟨lo,hi'⟩:=fz;simp only [World.frozen?,hg,Bool.and_eq_false_iff,alN]
   simp only [acd] at hfz
   rcases hfz with hfz | hfz
   ·right
    omega
   left
   omega
  have hst:(store ((⟨g,o,none⟩:Addr).add i) v).run P w= .ok () (w.setRow g (cur.setIfInBounds (o+i) v)):=by
   rw [hadd,run_store P w _ v _ (h1 v (by simp)),hcell]
   simp [hfro,setCell_eq_setRow w g (o+i) cur t fz v hg]
  have ih:=abD P g o t fz rest (i+1) (cur.setIfInBounds (o+i) v) (w.setRow g (cur.setIfInBounds (o+i) v)) (setRow_heap w g cur _ t _ hg) (by simp only [acd] at hfz;omega) (by simp at hl⊢;omega) (fun x hx=>h1 x (by simp [hx]))
  simp only [storeCells,Sem.run_bind,hst,Result.andThen_ok,ih,setRow_setRow]
  congr 3
  have e:=list_seg_step cur.toList (o+i) v rest (by simp at hl⊢;omega)
  simpa [amN,akR] using e
theorem Jg (l:List UInt8):(Lib.byteCells l).length=l.length:=by simp [Lib.byteCells]
theorem strCells_eq (s:ByteArray):Lib.strCells s=Lib.byteCells s.data.toList:=by simp [Lib.strCells,Lib.byteCells]
theorem fA.room {B:Nat} {l bs:List UInt8} {w:World} {g cap:Nat} {cur:Array Value} {fz:Nat×Nat} (hbg:B<=g) (hg:w.heap[g]?=some (.cells cur 5 fz)) (hfz:fz.2<=l.length\/cap<=fz.1) (hcm:cap<=maxLen) (hcs:cur.size=cap)
  (htake:cur.toList.take l.length=Lib.byteCells l) (hroom:l.length+bs.length<=cap):
  fA B (.slice (some ⟨g,0,none⟩) (l.length+bs.length) cap) (l ++ bs) (w.setRow g (cur.toList.take l.length ++ Lib.byteCells bs ++ cur.toList.drop (l.length+bs.length)).toArray)/\
  w.grownBy (w.setRow g (cur.toList.take l.length ++ Lib.byteCells bs ++ cur.toList.drop (l.length+bs.length)).toArray) (some g):=by
 refine ⟨⟨g,cap,_,fz,by rw [dA],hbg,setRow_heap w g cur _ _ _ hg, ?_,by rw [dA];exact hroom,hcm, ?_, ?_⟩,⟨rfl,rfl,rfl,by simp,fun k _ hk=>setRow_other w g k _ (fun e=>hk (by simp [e]))⟩⟩
 ·rw [dA]
  omega
 ·simp only [amb,dA,acW,acM,aeD,Jg]
  omega
 rw [htake,acF,Ij,<-acF]
 have e:(l ++ bs).length=(Lib.byteCells l ++ Lib.byteCells bs).length:=by simp [Jg]
 rw [e];exact alJ
theorem fA.fresh {B:Nat} {l:List UInt8} {w:World} {cap:Nat} {cs:Array Value} (hB:B<=w.heap.size) (hge:l.length<=cap) (hcm:cap<=maxLen) (hcs:cs.size=cap) (ht:cs.toList.take l.length=Lib.byteCells l):
  fA B (.slice (some ⟨w.heap.size,0,none⟩) l.length cap) l (w.drew.alloc (.cells cs 5))/\ ∀row,w.grownBy (w.drew.alloc (.cells cs 5)) row:=
 ⟨⟨w.heap.size,cap,cs,(0,0),rfl,hB,heap_alloc_new w.drew _, .inl (anN _),hge,hcm,hcs,ht⟩,fun row=>⟨rfl,rfl,rfl,by simp,fun k hk _=>Go.heap_alloc_old w.drew _ hk⟩⟩
theorem ajN {B:Nat} {v:Value} {l:List UInt8} {w:World} (h:fA B v l w) (z:ByteArray) (ty:TypeId) (hl:l.length+z.size<1073741824) (hB:B<=w.heap.size):
  ∃v' w',(Builtin.append_ #[55,9] ty #[v, .string z]).run Tryz.prog w= .ok v' w'/\fA B v' (l ++ z.data.toList) w'/\w.grownBy w' v.ownBlock:=by
 obtain ⟨i0,hi,hz0,hz1,hz2⟩:=info_parts QB;have hfull:=h
 obtain ⟨g,cap,cur,fz,rfl,hbg,hg,hfz,hnc,hcm,hcs,htake⟩:=h;have hzl:=Lib.size_eq z
 by_cases hroom:l.length+z.size<=cap
 ·have hf:=Lib.run_firstCells_string (P:=Tryz.prog) w 1 z
  have hst:=abD Tryz.prog g l.length 5 fz (Lib.strCells z) 0 cur w hg (by rw [Lib.strCells_length];omega) (by rw [Lib.strCells_length];omega) (Lib.strCells_oneCell z)
  simp only [akz,Lib.strCells_length] at hst
  have ho:=fA.room (B:=B) (l:=l) (bs:=z.data.toList) hbg hg hfz hcm hcs htake (by rw [<-hzl];exact hroom)
  rw [<-hzl,<-strCells_eq] at ho;refine ⟨_,_, ?_,ho.1,ho.2⟩
  simp [Builtin.append_,run_underlying Tryz.underlying55,run_underlying Tryz.underlying9,sizeOf,typeInfo,hi,hz1,Builtin.lenOf,hroom,hf,Addr.add_lit,hst]
 have hr:=Lib.run_append_grow_string (P:=Tryz.prog) w 55 9 ty 5 i0 (.int .u8 0) Tryz.underlying55 Tryz.underlying9 hi hz0 ⟨g,0,none⟩ l.length cap (Lib.byteCells l) (by rw [hz1,Jg];omega) (hfull.cell rfl) z (by omega) (by simp only [maxLen] at hcm;omega) (by rw [hz2];exact growslice_fits (by omega) (by omega))
 have hge:=grownCap_ge w (l.length+z.size) cap 5
 have hcm2:=grownCap_le_maxLen w (l.length+z.size) cap 5 (by unfold maxLen;omega)
 have hz1':(Value.int IntKind.u8 0).cells.size=1:=rfl
 have ho:=fA.fresh (B:=B) (l:=l ++ z.data.toList) (w:=w) (cap:=grownCap w (l.length+z.size) cap 5) (cs:=(Lib.byteCells l).toArray ++(Lib.strCells z).toArray ++ Builtin.zeroCells (Value.int .u8 0).cells (grownCap w (l.length+z.size) cap 5 -(l.length+z.size))) hB (by rw [dA,<-hzl];exact hge) hcm2 (by
  simp only [aoP,amb,size_zeroCells,hz1',Jg,Lib.strCells_length];omega) (by
  simp only [aey,acF];rw [strCells_eq,<-acF,<-Ij]
  have e:(l ++ z.data.toList).length=(Lib.byteCells (l ++ z.data.toList)).length:=(Jg _).symm
  rw [e]
  exact alJ)
 refine ⟨_,_,hr, ?_,ho.2 _⟩
 have e:(l ++ z.data.toList).length=l.length+z.size:=by rw [dA,<-hzl]
 rw [e] at ho;exact ho.1
theorem ajO {o:Oper} {a:Act} {K:Act->World->Prop} {Q:Exit->Act->World->Prop} (s x:Operand)
  (ho:o.op= .call {callee:= .builtin .append,args:= #[s,x],argTypes:= #[55,9]})
  (B:Nat) (v:Value) (l:List UInt8) (W:World) (hs:a.eval s=v) (h:fA B v l W) (z:ByteArray) (hx:a.eval x= .string z) (hl:l.length+z.size<1073741824) (hB:B<=W.heap.size)
  (k: ∀v' w',fA B v' (l ++ z.data.toList) w'->Below B W w'->K (a.put o.dst v') w'):Oper.wp Tryz.prog o a W K Q:=by
 obtain ⟨v',w',hrun,h2,h3⟩:=ajN h z o.type hl hB;unfold Oper.wp execOp
 simp only [ho,resolve,invoke,builtin,Sem.run_bind,Sem.run_pure,Result.andThen_ok,anx,adA,aek,hs,hx,hrun]
 exact k v' w' h2 ((Below.refl B W).grown h3 hB (fun j e=>(h.lt j e).1))
theorem abE {ops:Array Oper} {rest:List Oper} {o:Oper} {a:Act} {Q:Exit->Act->World->Prop} (hgd:o.guard=none) (s x:Operand)
  (ho:o.op= .call {callee:= .builtin .append,args:= #[s,x],argTypes:= #[55,9]})
  (B:Nat) (v:Value) (l:List UInt8) (W:World) (hs:a.eval s=v) (h:fA B v l W) (z:ByteArray) (hx:a.eval x= .string z) (hl:l.length+z.size<1073741824) (hB:B<=W.heap.size)
  (k: ∀v' w',fA B v' (l ++ z.data.toList) w'->Below B W w'->wpList Tryz.prog ops Q rest (a.put o.dst v') w'):wpList Tryz.prog ops Q (o :: rest) a W:=
 wpList_plain hgd fun _ hK=>ajO s x ho B v l W hs h z hx hl hB fun v' w' h1 h2=>hK _ _ (k v' w' h1 h2)
theorem abG (k n:Int) (w:World) (hk1:1<=k) (hk3:k<=3) (hn:ak.In64 n):
  Calls Tryz.prog 38 #[.int .i64 k, .int .i64 n] w fun e w'=>e= .returned (.string ⟨(ak.vC k n).toArray⟩)/\Below w.heap.size w w':=by
 obtain ⟨R,hR⟩: ∃R,ak.vC k n=R:=⟨_,rfl⟩;rw [hR];unfold ak.vC at hR;by_cases h2:k=2
 ·subst h2
  rw [ab7 rfl] at hR;have hc:=X7 n w hn.1 hn.2;rw [hR] at hc;have HC:=ah hc
  clear hn hk1 hk3 hc hR;go_enter Tryz.func38,Tryz.ntmps38;go_wp2_with fail
  refine HC.out.mono ?_;rintro e w1 ⟨rfl,hb⟩;have HB:=ah hb;clear hb;go_wp2;go_ret
  exact ⟨rfl,HB.out⟩
 by_cases h3:k=3
 ·subst h3
  rw [ab6 (by omega),ab7 rfl] at hR
  have hc:=ajM (ak.u64 n) w (ak.AV n);rw [hR] at hc;have hwr:=Ik n
  obtain ⟨b,hb⟩: ∃b,ak.u64 n=b:=⟨_,rfl⟩;rw [hb] at hc hwr;have HC:=ah hc;have hu:=lD
  clear hn hk1 hk3 hc hR h2 hb;go_enter Tryz.func38,Tryz.ntmps38;go_wp2_with fail
  refine HC.out.mono ?_;rintro e w1 ⟨rfl,hb⟩;have HB:=ah hb;clear hb;go_wp2;go_ret
  exact ⟨rfl,HB.out⟩
 obtain rfl:k=1:=by omega
 rw [ab6 (by omega),ab6 (by omega)] at hR
 by_cases h0:n=0
 ·subst h0
  rw [ab7 rfl] at hR;subst hR;clear hn hk1 hk3 h2 h3;go_enter Tryz.func38,Tryz.ntmps38
  go_wp2;go_ret;exact ⟨rfl,Below.refl _ _⟩
 rw [ab6 h0] at hR;subst hR;have t0:(n == 0)=false:=ab3.2 h0;clear hn hk1 hk3 h2 h3 h0
 go_enter Tryz.func38,Tryz.ntmps38;go_wp2;go_ret;exact ⟨rfl,Below.refl _ _⟩
theorem bn {c:UInt8} {k:UInt8} {n:Int} (hn:(k.toNat:Int)=n) (h:c≠k):((c.toNat:Int) !=n)=true:=by
 rw [acV,<-hn];intro e;exact h (ad8.1 (by omega))
theorem abH (w:World) (B:Nat) (l:List UInt8) (cs:Array Value) (hcs:cs=(Lib.byteCells l).toArray) (hB:B<=w.heap.size) (hl:l.length<1073741824):OwnB B (.slice (some ⟨w.heap.size,0,none⟩) l.length l.length) l (w.alloc (.cells cs 5)):=by
 subst hcs
 refine ⟨by simp [Lib.byteCells], .inr ⟨w.heap.size,l.length,(Lib.byteCells l).toArray,rfl,hB,heap_alloc_new w _,ab1 _,by unfold maxLen;omega,by simp [Lib.byteCells],by simp [Lib.byteCells,acg]⟩⟩
theorem ajP {ops:Array Oper} {o:Oper} {a:Act} {K:Act->World->Prop} {Q:Exit->Act->World->Prop} {E:Prop} (hgd:o.guard=none) (s x:Operand)
  (ho:o.op= .call {callee:= .builtin .append,args:= #[s,x],argTypes:= #[55,55]})
  (B:Nat) (v:Value) (l:List UInt8) (W:World) (hs:a.eval s=v) (h:OwnB B v l W) (bs:List UInt8) (us:List Value) (hu:us=Lib.byteCells bs) (m:Nat) (hm:bs.length=m)
  (hx:a.eval x= .slice (some ⟨W.heap.size,0,none⟩) m m) (hl:l.length<1073741824) (hm2:m<1073741824) (hB:B<=W.heap.size)
  (k: ∀v' w',OwnB B v' (l ++ bs) w'->W.grownBy w' v.ownBlock->Below B W w'->K (a.put o.dst v') w'):
  if Region.wanted o (yielded ops a.tmps)=true then Oper.wp Tryz.prog o a (W.alloc (.cells us.toArray 5)) K Q else E:=by
 have hw:Region.wanted o (yielded ops a.tmps)=true:=by simp [Region.wanted,hgd]
 rw [ab7 hw];subst hu hm;obtain ⟨i0,hi,hz0,hz1,hz2⟩:=info_parts QB
 have hr:=Reads.je (c:=bs.length) (abH W W.heap.size bs _ rfl (ab1 _) hm2)
 refine QA (P:=Tryz.prog) _ s x _ ho B 5 i0 _ 1 1 Tryz.underlying55 hi hz0 hz1 hz2 rfl (by decide) v l.length (Lib.byteCells l) hs (World.ownsRow.alloc h _) _ _ bs.length bs.length (Lib.byteCells bs) hx hr ?_ ?_ ?_ ?_ ?_
 ·intro u hu
  obtain ⟨b,_,rfl⟩:=ad5.1 hu;rfl
 ·unfold maxLen;omega
 ·omega
 ·simp;omega
 intro v' w' h1 h2 h3;refine k v' w' ?_ (dU (vH (fO W _) _) h2) ?_
 ·unfold OwnB
  rw [Ij,dA];exact h1
 exact ((Below.refl B W).alloc hB _).grown h2 (by simp;omega) (fun j e=>(World.ownsRow.lt h j e).1)
structure NU (s:ByteArray) (w:World) (k:Nat) (acc:List UInt8) (v:Value) (wx:World):Prop where
 text:acc=39 ::(s.data.toList.take k).flatMap Lex.q1
 len:acc.length<=4*k+1
 bel:Below w.heap.size w wx
 own:OwnB w.heap.size v acc wx
theorem NU.next {s:ByteArray} {w:World} {k:Nat} {acc acc':List UInt8} {v v':Value} {wx wy:World} (h:NU s w k acc v wx) (hk:k<s.size) (ha:acc'=acc ++ Lex.q1 (s[k]'hk)) (hb:Below w.heap.size wx wy) (hl:OwnB w.heap.size v' acc' wy):NU s w (k+1) acc' v' wy:=by
 have h1:k<s.data.toList.length:=by rw [<-Lib.size_eq];exact hk
 have hq:=(Lex.L6 (s[k]'hk)).2;have hlen:=h.len
 refine ⟨?_,by rw [ha,dA];omega,h.bel.trans hb,hl⟩
 rw [ha,h.text,aer h1,ad4];simp only [adV,adz,amo,acK];rfl
theorem abI (s:ByteArray) (w:World) (hs:s.size<=67108864):
  Calls Tryz.prog 39 #[.string s] w fun e w'=>e= .returned (.string ⟨(Lex.quote s.data.toList).toArray⟩)/\Below w.heap.size w w':=by
 go_enter Tryz.func39,Tryz.ntmps39;go_wp2_with fail
 go_loopg [3,4] s.size (fun g v x wx=> ∃(k:Nat) (acc:List UInt8),k+g=s.size/\x= .int .i64 k/\NU s w k acc v wx)
 case atStart=>exact ⟨0, [39],by omega,rfl,⟨by simp,by simp,(Below.refl _ _).alloc (ab1 _) _,abH w _ [39] _ rfl (ab1 _) (by decide)⟩⟩
 obtain ⟨k,acc,hk,rfl,hrel⟩:=hrel;have hlen:=hrel.len;have hsz:=hrel.bel.size
 have HQ:=ah hrel;obtain ⟨A3,c3,rfl⟩:=aJ hrel.own;clear hrel
 have hal:acc.length+4<1073741824:=by omega
 cases gk with
 | zero=>
  obtain rfl:k=s.size:=by omega
  have ht:acc ++ [39]=Lex.quote s.data.toList:=by
   rw [HQ.out.text,acg (by rw [<-Lib.size_eq];omega)]
   rfl
  have HT:=ah ht;clear ht
  go_wp2_with (at_builtin;refine qE rfl (.tmp 59) (.tmp 60) rfl w.heap.size (.slice A3 acc.length c3) acc wr rfl HQ.out.own [39] [.int .u8 39] rfl 1 rfl rfl (by omega) (by decide) hsz ?_)
  intro v1 w1 hown1 mW eH;have hcv:=hown1.conv;have HB:=ah (HQ.out.bel.trans eH)
  clear hown1 mW eH;go_wp2;go_ret;exact ⟨by rw [<-HT.out];rfl,HB.out⟩
 | succ g=>
  have hlt:k<s.size:=by omega
  have zK:(k:Int)<s.size:=by omega
  have t1:decide (k<s.size)=true:=abW hlt
  have hnext:=fun (acc':List UInt8) (v':Value) (wy:World) (ha:acc'=acc ++ Lex.q1 (s[k]'hlt)) (hb:Below w.heap.size wr wy) (hl:OwnB w.heap.size v' acc' wy)=>HQ.out.next hlt ha hb hl
  have HN:=ah hnext;have HO:=ah HQ.out.own;have oN:=ah hk;have hk4:k<=67108864:=by omega
  obtain ⟨c,hc⟩: ∃c,s[k]'hlt=c:=⟨_,rfl⟩;rw [hc] at HN;clear hnext HQ hk hs
  by_cases h10:c=10
  ·subst h10
   go_wp2_with (at_builtin;refine qE rfl (.tmp 18) (.tmp 19) rfl w.heap.size (.slice A3 acc.length c3) acc wr rfl HO.out [92,110] [.int .u8 92, .int .u8 110] rfl 2 rfl rfl (by omega) (by decide) hsz ?_)
   intro v1 w1 hown1 mW eH;have HR:=ah (HN.out _ _ _ (rfl) eH hown1);clear hown1 eH;go_wp2
   go_roundg g
   case measure=>omega
   exact ⟨k+1,_,by have:=oN.out;omega,int_eq' (by omega),HR.out⟩
  by_cases h13:c=13
  ·subst h13
   go_wp2_with (at_builtin;refine qE rfl (.tmp 23) (.tmp 24) rfl w.heap.size (.slice A3 acc.length c3) acc wr rfl HO.out [92,114] [.int .u8 92, .int .u8 114] rfl 2 rfl rfl (by omega) (by decide) hsz ?_)
   intro v1 w1 hown1 mW eH;have HR:=ah (HN.out _ _ _ (rfl) eH hown1);clear hown1 eH;go_wp2
   go_roundg g
   case measure=>omega
   exact ⟨k+1,_,by have:=oN.out;omega,int_eq' (by omega),HR.out⟩
  by_cases h9:c=9
  ·subst h9
   go_wp2_with (at_builtin;refine qE rfl (.tmp 28) (.tmp 29) rfl w.heap.size (.slice A3 acc.length c3) acc wr rfl HO.out [92,116] [.int .u8 92, .int .u8 116] rfl 2 rfl rfl (by omega) (by decide) hsz ?_)
   intro v1 w1 hown1 mW eH;have HR:=ah (HN.out _ _ _ (rfl) eH hown1);clear hown1 eH;go_wp2
   go_roundg g
   case measure=>omega
   exact ⟨k+1,_,by have:=oN.out;omega,int_eq' (by omega),HR.out⟩
  have t10:(((c.toNat:Nat):Int) == 10)=false:=bq (k:=10) rfl (ab3.2 h10)
  have t13:(((c.toNat:Nat):Int) == 13)=false:=bq (k:=13) rfl (ab3.2 h13)
  have t9:(((c.toNat:Nat):Int) == 9)=false:=bq (k:=9) rfl (ab3.2 h9);have hcb:=byte_le c
  by_cases hodd:Lex.odd c=true
  ·have aew:=ah (Lex.RG h10 h13 h9 hodd)
   have hq1:c.toNat / 16<16:=by have:=aeE c;omega
   have hq2:c.toNat % 16<16:=by omega
   have i1:((c.toNat:Int) / 16)<16:=by omega
   have i2:((c.toNat:Int) % 16)<16:=by omega
   have hd1:=fun h=>Gu (c.toNat / 16) hq1 h
   have hd2:=fun h=>Gu (c.toNat % 16) hq2 h
   obtain ⟨x1,hx1⟩: ∃x,Num.eX (c.toNat / 16)=x:=⟨_,rfl⟩
   obtain ⟨x2,hx2⟩: ∃x,Num.eX (c.toNat % 16)=x:=⟨_,rfl⟩;rw [hx1,hx2] at aew
   rw [hx1] at hd1;rw [hx2] at hd2;clear hx1 hx2 h10 h13 h9
   have hn1:((c.toNat:Int) / 16).toNat=c.toNat / 16:=by omega
   have hn2:((c.toNat:Int) % 16).toNat=c.toNat % 16:=by omega
   have z1:(0:Int)<=(c.toNat:Int) / 16:=by omega
   have z2:(0:Int)<=(c.toNat:Int) % 16:=by omega
   go_upto_region 12 with fail
   go_cut [36] (fun s36 wx=>s36= .bool true/\wr=wx)
   case first=>
    by_cases h32:c.toNat<32
    ·have u1:decide ((c.toNat:Int)<32)=true:=abW (by omega)
     clear h32 hodd hn1 hn2 z1 z2 i1 i2 hd1 hd2 hq1 hq2;go_wp2_with fail;go_meet
     exact ⟨rfl,rfl⟩
    have u1:decide ((c.toNat:Int)<32)=false:=abX (by omega)
    have u2:decide (126<(c.toNat:Int))=true:=abW (by
     unfold Lex.odd at hodd;rw [abX h32,ao4,acZ] at hodd
     omega)
    clear h32 hodd hn1 hn2 z1 z2 i1 i2 hd1 hd2 hq1 hq2;go_wp2_with fail;go_meet
    exact ⟨rfl,rfl⟩
   obtain ⟨rfl,rfl⟩:=hcut;clear hodd;go_wp2_with fail
   have r1:IntKind.u8.wrap ((c.toNat:Int) / 16)=(c.toNat:Int) / 16:=IntWalk.u8_in _ (by omega)
   have r3:((c.toNat:Int)).tmod 16=(c.toNat:Int) % 16:=aoE (by omega)
   have r2:IntKind.u8.wrap ((c.toNat:Int) % 16)=(c.toNat:Int) % 16:=IntWalk.u8_in _ (by omega)
   go_region_law (refine ajP rfl (.tmp 37) (.tmp 44) rfl w.heap.size (.slice A3 acc.length c3) acc wr.drew rfl HO.out [92,120,x1,x2] [.int .u8 92, .int .u8 120, .int .u8 (x1.toNat:Int), .int .u8 (x2.toNat:Int)] rfl 4 rfl rfl (by omega) (by decide) hsz ?_;intro v1 w1 hown1 mW eH)
   all_goals
    have HR:=ah (HN.out _ _ _ (by rw [aew.out];simp) ((Below.refl _ _).drew.trans eH) hown1)
    clear hown1 mW eH;go_wp2
    go_roundg g
    case measure=>omega
    exact ⟨k+1,_,by have:=oN.out;omega,int_eq' (by omega),HR.out⟩
  have u1:decide ((c.toNat:Int)<32)=false:=abX (by
   intro h
   apply hodd
   unfold Lex.odd;rw [abW (show c.toNat<32 by omega)]
   rfl)
  have u2:decide (126<(c.toNat:Int))=false:=abX (by
   intro h
   apply hodd
   unfold Lex.odd
   rw [abW (show 126<c.toNat by omega),Bool.or_true])
  have ho:Lex.odd c=false:=by simpa using hodd
  clear hodd;by_cases dB:c=39
  ·subst dB
   go_wp2_with (at_builtin;refine qE rfl (.tmp 52) (.tmp 53) rfl w.heap.size (.slice A3 acc.length c3) acc wr rfl HO.out [92] [.int .u8 92] rfl 1 rfl rfl (by omega) (by decide) hsz ?_)
   intro v1 w1 hown1 mW eH;have hsz2:=ab5 hsz eH.size;have iK:=ah hown1;have HB2:=ah eH
   obtain ⟨A4,c4,e4⟩:=aJ hown1;subst e4
   obtain ⟨n4,hn4⟩: ∃n,(acc ++ [92]).length=n:=⟨_,rfl⟩;rw [hn4] at iK;rw [hn4]
   clear hown1 mW eH hn4
   go_wp2_with (at_builtin;refine qE rfl (.tmp 55) (.tmp 57) rfl w.heap.size (.slice A4 n4 c4) (acc ++ [92]) w1 rfl iK.out [39] [.int .u8 39] rfl 1 rfl rfl (by rw [dA];simp;omega) (by decide) hsz2 ?_)
   intro v2 w2 hown2 Xe bT
   have HR:=ah (HN.out _ _ _ (by rw [Lex.Np (by decide)];simp) (HB2.out.trans bT) hown2)
   clear hown2 Xe bT;go_wp2
   go_roundg g
   case measure=>omega
   exact ⟨k+1,_,by have:=oN.out;omega,int_eq' (by omega),HR.out⟩
  by_cases dX:c=92
  ·subst dX
   go_wp2_with (at_builtin;refine qE rfl (.tmp 52) (.tmp 53) rfl w.heap.size (.slice A3 acc.length c3) acc wr rfl HO.out [92] [.int .u8 92] rfl 1 rfl rfl (by omega) (by decide) hsz ?_)
   intro v1 w1 hown1 mW eH;have hsz2:=ab5 hsz eH.size;have iK:=ah hown1;have HB2:=ah eH
   obtain ⟨A4,c4,e4⟩:=aJ hown1;subst e4
   obtain ⟨n4,hn4⟩: ∃n,(acc ++ [92]).length=n:=⟨_,rfl⟩;rw [hn4] at iK;rw [hn4]
   clear hown1 mW eH hn4
   go_wp2_with (at_builtin;refine qE rfl (.tmp 55) (.tmp 57) rfl w.heap.size (.slice A4 n4 c4) (acc ++ [92]) w1 rfl iK.out [92] [.int .u8 92] rfl 1 rfl rfl (by rw [dA];simp;omega) (by decide) hsz2 ?_)
   intro v2 w2 hown2 Xe bT
   have HR:=ah (HN.out _ _ _ (by rw [Lex.Np (by decide)];simp) (HB2.out.trans bT) hown2)
   clear hown2 Xe bT;go_wp2
   go_roundg g
   case measure=>omega
   exact ⟨k+1,_,by have:=oN.out;omega,int_eq' (by omega),HR.out⟩
  have zL:(((c.toNat:Nat):Int) == 92)=false:=bq (k:=92) rfl (ab3.2 dX)
  have t39:(((c.toNat:Nat):Int) == 39)=false:=bq (k:=39) rfl (ab3.2 dB)
  have HP:=ah (Lex.ZN dX dB ho);clear h10 h13 h9 dX dB ho
  go_wp2_with (at_builtin;refine qE rfl (.tmp 55) (.tmp 57) rfl w.heap.size (.slice A3 acc.length c3) acc wr rfl HO.out [c] [.int .u8 (c.toNat:Int)] (byteCells_one _).symm 1 rfl rfl (by omega) (by decide) hsz ?_)
  intro v1 w1 hown1 mW eH;have HR:=ah (HN.out _ _ _ (by rw [HP.out]) eH hown1)
  clear hown1 mW eH;go_wp2
  go_roundg g
  case measure=>omega
  exact ⟨k+1,_,by have:=oN.out;omega,int_eq' (by omega),HR.out⟩
end Go.Proofs.YtoofbflplhbpbaaGreatDoor
