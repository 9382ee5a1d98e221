/- Contracts and plain laws,part 36. -/
import Derived.Test.YtanlehkalkafdaaGreatDoorUR35
set_option maxHeartbeats 64000000
set_option maxRecDepth 1000000
set_option linter.all false
namespace Go.Proofs.YtanlehkalkafdaaGreatDoor
open Go.RowKit
theorem flat_len {α:Type} {f:α->List UInt8} {c:Nat}: ∀{l:List α},(∀x∈l,(f x).length<=c)->(l.flatMap f).length<=c*l.length
 |[],_=>by simp
 |a :: l,h=>by
  have h1:=h a (by simp)
  have h2:=flat_len (l:=l) (f:=f) (c:=c) fun x hx=>h x (by simp[hx])
  rw[uK,rP,sS,zV];omega
theorem cel_print_len {v:Cel.V} (h:Cel.check v=0) (hn:Cel.In64 v.num) (hns: ∀n∈v.nums,Cel.In64 n):(Cel.print v).length<=100000:=by
 obtain⟨-,-,-,h1,h2,h3,h4,-⟩:=Cel.check_parts h
 have e1:(Cel.letter v.kind).length<=3:=by unfold Cel.letter;split<;>simp
 have e2:(if v.kind<4 then Cel.numS v.kind v.num else[]).length<=24:=by
  split
  ·exact numS_len _ _ hn
  simp
 have e3:=flat_len (f:=Cel.numE (v.kind - 4)) (c:=25) (l:=v.nums) fun n hn=>by
  have:=numS_len (v.kind - 4) n (hns n hn);unfold Cel.numE;rw[rP,uh];omega
 have e4:=flat_len (f:=Cel.textE) (c:=2001) (l:=v.texts) fun t ht=>by
  have:=escT_len t;have:=longs_all h4 t ht;unfold Cel.textE;rw[rP,uh];omega
 have e5:25*v.nums.length<=25*40:=wF _ h1;have e6:2001*v.texts.length<=2001*40:=wF _ h2
 unfold Cel.print;simp only[rP,uh];omega
theorem trim_take (l:List UInt8) (n:Nat) (h:n<l.length):Lib.trimRightS (l.take (n+1)) [48]=if l[n]'h=48 then Lib.trimRightS (l.take n) [48] else l.take (n+1):=by
 have e:l.take (n+1)=l.take n++[l[n]'h]:=by simp
 rw[e];exact Num.trim_snoc _ _
theorem trim_zero13:Lib.trimRightS (Num.hexN 13 0) [48]=[]:=by decide
theorem trim_empty {f:Nat} (hf:f<4503599627370496) (h:Lib.trimRightS (Num.hexN 13 f) [48]=[]):f=0:=by
 obtain⟨j,h1,_⟩:=Num.trim_split _ (Num.hexN 13 f) rfl;rw[h,tY]at h1
 have h2:=Num.hexVal_hexN 13 f 0 (by have e:(16:Nat) ^ 13=4503599627370496:=(by decide);omega)
 rw[h1,Num.hexVal_zeros]at h2;have h3:=tN h2;omega
theorem fracS_cases {f:Nat} (hf:f<4503599627370496) {tl:List UInt8} (h:Lib.trimRightS (Num.hexN 13 f) [48]=tl):Num.fracS f=if tl=[] then[] else 46 :: tl:=by
 unfold Num.fracS;by_cases h0:f=0
 ·subst h0
  rw[trim_zero13]at h;subst h;rfl
 rw[rU h0,h,rU (fun e=>h0 (trim_empty hf (h.trans e)))]
theorem refFmt_any (b:Nat) (w:World) (hb:b<18446744073709551616):
  Calls Tryz.prog 151 #[.int .u64 b] w fun e w'=>e=.returned (.string ⟨(Num.fmt b).toArray⟩)/\Below w.heap.size w w':=by
 obtain⟨a,ha⟩:=aj (b % 9223372036854775808)
 obtain⟨neg,hneg⟩:=aj (decide (9223372036854775808<=b))
 have hf:Num.fmt b=if 9218868437227405312<a then Num.NANS else Num.sg neg++Num.fmtU a:=by unfold Num.fmt;rw[ha,hneg]
 obtain⟨SG,hSG⟩:=aj (⟨(Num.sg neg).toArray⟩:ByteArray)
 have hsgl:SG.size<=1:=by rw[<-hSG,size_list];cases neg<;>simp[Num.sg]
 have hai:(a:Int)<=9223372036854775807:=by omega
 have hai0:(0:Int)<=a:=by omega
 have HA:=ah ha;have HNEG:=ah hneg;have HSG:=ah hSG;obtain⟨RES,hRES⟩:=aj (Num.fmt b)
 rw[hRES]at hf⊢;have HRES:=ah hf;clear ha hneg hSG hf hRES
 go_enter Tryz.func151,Tryz.ntmps151
 go_upto_if 9 with fail
 go_cut [0,3] (fun s0 s3 wx=>s0=.int .u64 a/\s3=.string SG/\w=wx)
 case first=>
  by_cases hs:9223372036854775808<=b
  ·have bs:decide (9223372036854775808<=(b:Int))=true:=rQ (by omega)
   have hbi:(9223372036854775808:Int)<=b:=by omega
   have hbi2:(b:Int)<=18446744073709551615:=by omega
   have hsg:SG=⟨#[45]⟩:=by rw[<-HSG.out,<-HNEG.out,rQ hs];rfl
   have hv:(b:Int) - 9223372036854775808=a:=by have:=HA.out;omega
   have HV:=ah hv;have HS:=ah hsg;clear hv hsg hs hb;go_simp;go_wp2_with fail;go_meet
   exact⟨int_eq' HV.out,by rw[HS.out],rfl⟩
  have bs:decide (9223372036854775808<=(b:Int))=false:=rO (by omega)
  have hsg:SG=⟨#[]⟩:=by rw[<-HSG.out,<-HNEG.out,rO hs];rfl
  have hv:(b:Int)=a:=by have:=HA.out;omega
  have HV:=ah hv;have HS:=ah hsg;clear hv hsg hs hb;go_simp;go_wp2_with fail;go_meet
  exact⟨int_eq' HV.out,by rw[HS.out],rfl⟩
 obtain⟨rfl,rfl,rfl⟩:=hcut;clear HNEG HA;by_cases hnan:9218868437227405312<a
 ·have hr:RES=Num.NANS:=by rw[HRES.out,rY hnan]
  have HR:=ah hr;clear hr;have b2:decide (9218868437227405312<(a:Int))=true:=rQ (by omega)
  clear hnan hb;go_wp2;go_ret;exact⟨by rw[HR.out];rfl,Below.refl _ _⟩
 have b2:decide (9218868437227405312<(a:Int))=false:=rO (by omega)
 by_cases hinf:a=9218868437227405312
 ·have e1:Num.fmtU a=Num.INFS:=by unfold Num.fmtU;rw[rY hinf]
  have hr:RES=Num.sg neg++Num.INFS:=by rw[HRES.out,rU hnan,e1]
  have HR:=ah hr;have b3:((a:Int) == 9218868437227405312)=true:=by rw[uw];omega
  clear hnan hinf e1 hb hr;go_wp2;go_ret
  exact⟨by rw[HR.out,<-HSG.out,str_app];rfl,Below.refl _ _⟩
 have b3:((a:Int) == 9218868437227405312)=false:=by rw[rX];omega
 by_cases h0:a=0
 ·have e1:Num.fmtU a=Num.ZERO:=by unfold Num.fmtU;rw[rU hinf,rY h0]
  have hr:RES=Num.sg neg++Num.ZERO:=by rw[HRES.out,rU hnan,e1]
  have HR:=ah hr;have b4:((a:Int) == 0)=true:=by rw[uw];omega
  clear hnan hinf h0 e1 hb hr;go_wp2;go_ret
  exact⟨by rw[HR.out,<-HSG.out,str_app];rfl,Below.refl _ _⟩
 have b4:((a:Int) == 0)=false:=by rw[rX];omega
 have e1:Num.fmtU a=Num.form (Num.nfrac a) (Num.nexp a):=by unfold Num.fmtU;rw[rU hinf,rU h0]
 have hr:RES=Num.sg neg++Num.form (Num.nfrac a) (Num.nexp a):=by rw[HRES.out,rU hnan,e1]
 obtain⟨p1,p2,p3,-,-⟩:=Num.nparts h0 (by omega)
 obtain⟨E,hE⟩:=aj (Num.nexp a);obtain⟨f,hf⟩:=aj (Num.nfrac a);rw[hE,hf]at hr
 have HR:=ah hr;rw[hE]at p2 p3;rw[hf]at p1;obtain⟨X,hX⟩:=aj (E+1023)
 obtain⟨G,hG⟩:=aj (f+4503599627370496);have hx1:X<=2046:=by omega
 have hx2: -51<=X:=by omega
 have hg1:(G:Int)<9007199254740992:=by omega
 have hg2:(4503599627370496:Int)<=G:=by omega
 have HE:=ah hE;have HF:=ah hf;have HX:=ah hX;have HG:=ah hG;have H0:=ah h0
 have HN:=ah hnan;have HI:=ah hinf;have hai2:(a:Int)<=9218868437227405312:=by omega
 clear hE hf hX hG e1 h0 hnan hinf hb hr HRES
 go_upto_if 29 with fail
 go_cut [4,5] (fun s4 s5 wx=>s4=.int .i64 X/\s5=.int .u64 G/\w=wx)
 case first=>
  clear hx1 hx2 hg1 hg2 p1 p2 p3;by_cases hx:a<4503599627370496
  ·obtain⟨u1,u2,u3,u4⟩:=Num.up_spec H0.out hx
   have en:X=1 -(Num.up a:Int):=by rw[<-HX.out,<-HE.out];unfold Num.nexp;rw[rY hx];omega
   have fn:G=a*2 ^ Num.up a:=by rw[<-HG.out,<-HF.out];unfold Num.nfrac;rw[rY hx];omega
   obtain⟨U,hU⟩:=aj (Num.up a);rw[hU]at u1 u2 u3 u4 en fn
   have k1:(a:Int) / 4503599627370496=0:=by omega
   have ha1:(a:Int)<4503599627370496:=by omega
   have hU1:(1:Int)<=U:=by omega
   have hU2:(U:Int)<=52:=by omega
   have HEN:=ah en;have HFN:=ah fn;have HU2:=ah u2;have HU3:=ah u3;have HU4:=ah u4
   clear en fn hU u1 u2 u3 u4 hx;refine wp_cond_true (by simp only[k1];rfl) ?_
   go_wp2_with fail
   go_loopg [4,5] U (fun g x y wr=> ∃j:Nat,j+g=U/\x=.int .i64 (1 -(j:Int))/\y=.int .u64 ((a*2 ^ j:Nat):Int)/\w=wr)
   case atStart=>exact⟨0,by omega,rfl,by simp,rfl⟩
   obtain⟨j,hj,rfl,rfl,rfl⟩:=hrel;have HJ:=ah hj;clear hj;cases gk with
   |succ g=>
    have hj1:j+1<=U:=by have:=HJ.out;omega
    obtain⟨y,hy⟩:=aj (a*2 ^ j)
    have hyb:y<4503599627370496:=by
     have e1:a*2 ^(j+1)<=a*2 ^ U:=wF _ (vY (by decide) hj1)
     rw[vN,<-xG,hy]at e1;have:=HU4.out;omega
    have hy2:a*2 ^(j+1)=y*2:=by rw[vN,<-xG,hy]
    rw[hy];have HY:=ah hy2;have yi:(y:Int)<4503599627370496:=by omega
    have ji:(j:Int)<=52:=by have:=HU2.out;omega
    clear hy hy2;go_wp2
    go_roundg g
    case measure=>omega
    exact⟨j+1,by have:=HJ.out;omega,int_eq' (by omega),by rw[HY.out];exact int_eq' (by omega),rfl⟩
   |zero=>
    obtain rfl:j=U:=by have:=HJ.out;omega
    obtain⟨y,hy⟩:=aj (a*2 ^ j);rw[hy]
    have yi:(4503599627370496:Int)<=y:=by have:=HU3.out;omega
    have dy:decide ((y:Int)<4503599627370496)=false:=rO (by omega)
    have HY:=ah hy;clear hy hai hai2 ha1 b2 b3 b4 k1;go_wp2_with fail;go_meet
    exact⟨int_eq' HEN.symm,int_eq' (by rw[HFN.out,HY.out]),rfl⟩
  have en:X=((a / 4503599627370496:Nat):Int):=by rw[<-HX.out,<-HE.out];unfold Num.nexp;rw[rU hx];omega
  have fn:G=a % 4503599627370496+4503599627370496:=by rw[<-HG.out,<-HF.out];unfold Num.nfrac;rw[rU hx]
  have t1:((a:Int) / 4503599627370496 == 0)=false:=by rw[rX];omega
  have HEN:=ah en;have HFN:=ah fn;have ha1:(4503599627370496:Int)<=a:=by omega
  clear en fn hx;refine wp_cond_false (by simp only[t1];rfl) ?_
  go_wp2_with fail;go_meet
  exact⟨int_eq' (by rw[HEN.out];omega),int_eq' (by rw[HFN.out];omega),rfl⟩
 obtain⟨rfl,rfl,rfl⟩:=hcut;have kE:X - 1023=E:=by have:=HX.out;omega
 have kG:(G:Int) - 4503599627370496=f:=by have:=HG.out;omega
 obtain⟨H13,h13⟩:=aj (Num.hexN 13 f)
 have h13l:H13.length=13:=by rw[<-h13];exact Num.hexN_len 13 f
 obtain⟨z,hz⟩:=aj (⟨H13.toArray⟩:ByteArray)
 have hzl:z.size=13:=by rw[<-hz,size_list,h13l]
 have hzd:z.data.toList=H13:=by rw[<-hz]
 obtain⟨tl,htl⟩:=aj (Lib.trimRightS H13 [48])
 have hfr:=fracS_cases (tl:=tl) p1 (by rw[h13];exact htl)
 have hhex:=fun(W:World)=>hex_any f 13 W (by omega) (by omega)
 rw[h13,hz]at hhex;have HHEX:=ah hhex;have HFR:=ah hfr;have HZD:=ah hzd
 have HL13:=ah h13l;have HTL:=ah htl
 clear hfr hhex h13 hz hzd h13l htl HE HF HX HG H0 HN HI b2 b3 b4 hai hai2 hai0
 go_wp2_with fail;refine(HHEX.out _).mono ?_;rintro e w1 ⟨rfl,hb1⟩;have HB1:=ah hb1
 clear hb1;clear hg1 hg2 p1 kG
 go_upto_block 2 with fail
 go_cut [7] (fun s7 wx=>s7=.int .i64 (tl.length:Int)/\tl=H13.take tl.length/\w1=wx)
 case first=>
  go_wp2_with fail
  go_loopg [7] 13 (fun g x wr=>g<=13/\x=.int .i64 (g:Int)/\Lib.trimRightS (H13.take g) [48]=tl/\w1=wr)
  case atStart=>exact⟨by omega,rfl,by rw[sG (by rw[HL13.out];exact rM _)];exact HTL.out,rfl⟩
  obtain⟨hg,rfl,htk,rfl⟩:=hrel;have HTK:=ah htk;clear htk;cases gk with
  |zero=>
   have htl0: []=tl:=HTK.out;have HT:=ah htl0;clear htl0 HTK;go_wp2_with fail;go_meet
   exact⟨by rw[<-HT.out];rfl,by rw[<-HT.out];rfl,rfl⟩
  |succ g=>
   have hlt:g<z.size:=by omega
   have gi:(g:Int)<=12:=by omega
   have hl13:g<H13.length:=by rw[HL13.out];omega
   have hz0:z[g]'hlt=H13[g]'hl13:=by
    have h1:=Lib.data_getElem? z g hlt;rw[HZD.out,ay hl13]at h1;exact(tN h1).symm
   have hstep:=trim_take H13 g hl13;rw[HTK.out]at hstep;obtain⟨c,hc⟩:=aj (z[g]'hlt)
   rw[<-hz0,hc]at hstep;by_cases h48:c=48
   ·have t5:(((z[g]'hlt).toNat:Int) == 48)=true:=by rw[hc,h48];rfl
    rw[rY h48]at hstep;have HS:=ah hstep;clear hstep hz0 hc h48 hl13;go_wp2
    go_roundg g
    case measure=>omega
    exact⟨by omega,int_eq' (by omega),HS.symm,rfl⟩
   have t5:(((z[g]'hlt).toNat:Int) == 48)=false:=by
    rw[hc,rX];intro e;exact h48 (vS.1 (by show c.toNat=48;omega))
   rw[rU h48]at hstep
   have hlen:tl.length=g+1:=by
    rw[hstep,tK,HL13.out];omega
   have HS:=ah hstep;have HLEN:=ah hlen;clear hstep hz0 hc h48 hl13 hlen;go_wp2_with fail
   go_meet;exact⟨int_eq' (by rw[HLEN.out];omega),by rw[HLEN.out];exact HS.out,rfl⟩
 obtain⟨rfl,htk,rfl⟩:=hcut;have HTK:=ah htk
 have htll:tl.length<=13:=by
  have h1:=uo List.length htk;rw[tK,HL13.out]at h1;omega
 obtain⟨n,hn⟩:=aj tl.length;rw[hn];rw[hn]at htll;have HN:=ah hn;clear htk hn
 obtain⟨fs,hfs⟩:=aj (Num.fracS f)
 have hfs2:fs=if tl=[] then[] else 46 :: tl:=by rw[<-hfs];exact HFR.out
 have hfsl:fs.length<=14:=by
  rw[hfs2]
  split
  ·simp
  rw[sS,HN.out];omega
 obtain⟨S3,hS3⟩:=aj (SG ++⟨#[48,120,49]⟩ ++⟨fs.toArray⟩:ByteArray)
 have hs3l:S3.size<=20:=by rw[<-hS3,Az,Az];have e:(⟨#[48,120,49]⟩:ByteArray).size=3:=rfl;have e2:(⟨fs.toArray⟩:ByteArray).size=fs.length:=size_list fs;omega
 have HS3:=ah hS3;have HFS:=ah hfs;have HFS2:=ah hfs2;clear hS3 hfs hfs2 hfsl HFR
 go_upto_if 56 with fail
 go_cut [3] (fun s3 wx=>s3=.string S3/\w1=wx)
 case first=>
  by_cases ht0:tl=[]
  ·have hn0:n=0:=by rw[<-HN.out,ht0];rfl
   have hs:SG ++⟨#[48,120,49]⟩=S3:=by
    rw[<-HS3.out,HFS2.out,rY ht0]
    apply vI
    simp
   have HS:=ah hs;subst hn0;clear hs ht0;go_wp2_with fail;go_meet
   exact⟨by rw[HS.out],rfl⟩
  have hn1:0<n:=by
   have:tl.length≠0:=fun e=>ht0 (sH e)
   rw[HN.out]at this;omega
  have hn2:(1:Int)<=n:=by omega
  have hext:z.extract 0 n=⟨tl.toArray⟩:=by
   apply vI
   apply Array.toList_inj.1
   rw[Lib.extract_data,HZD.out];have:=HTK.out;rw[HN.out]at this;rw[this];simp
  have hs:SG ++⟨#[48,120,49]⟩ ++⟨#[46]⟩++z.extract 0 n=S3:=by
   rw[<-HS3.out,HFS2.out,rU ht0,hext]
   apply vI
   simp
  have HS:=ah hs;clear hs ht0 hext;have hn13:n<=z.size:=by omega
  go_wp2_with fail;go_meet;exact⟨by rw[HS.out],rfl⟩
 obtain⟨rfl,rfl⟩:=hcut;by_cases hneg:E<0
 ·obtain⟨m,hm⟩: ∃m:Nat,-E=(m:Int):=⟨(-E).toNat,by omega⟩
  obtain⟨r,hr⟩:=aj (Lib.decDigits m)
  have hrl:r.length<=20:=by rw[<-hr,Num.dec_len];exact nDigits_le 19 m (by omega)
  have hex:Num.expS E=109 :: r:=by
   unfold Num.expS;rw[rY hneg,hm,Lib.itoa_nonneg,hr]
  have HEX2:=ah hex;have HDIG:=ah (fun(W:World)=>hr▸digits_any m W (by omega))
  have te4:(m:Int)<=2000:=by omega
  have te0:(0:Int)<=m:=by omega
  have te1:E<= -1:=by omega
  clear hr hex;go_wp2_with fail;refine(HDIG.out _).mono ?_;rintro e w2 ⟨rfl,hb2⟩
  have HB2:=ah hb2;clear hb2 hm;go_wp2;go_ret;refine⟨?_,HB1.trans (HB2.mono HB1.size)⟩
  rw[HR.out,<-HS3.out,<-HSG.out];unfold Num.form;rw[HEX2.out,HFS.out]
  exact uo (fun q=>Ending.returned (Value.string q)) (by apply vI;simp)
 obtain⟨m,hm⟩: ∃m:Nat,E=(m:Int):=⟨E.toNat,by omega⟩
 subst hm;obtain⟨r,hr⟩:=aj (Lib.decDigits m)
 have hrl:r.length<=20:=by rw[<-hr,Num.dec_len];exact nDigits_le 19 m (by omega)
 have hex:Num.expS (m:Int)=112 :: r:=by
  unfold Num.expS;rw[rU hneg,Lib.itoa_nonneg,hr]
 have HEX2:=ah hex;have HDIG:=ah (fun(W:World)=>hr▸digits_any m W (by omega))
 have te0:(0:Int)<=m:=by omega
 clear hr hex hneg;go_wp2_with fail;refine(HDIG.out _).mono ?_;rintro e w2 ⟨rfl,hb2⟩
 have HB2:=ah hb2;clear hb2;go_wp2;go_ret;refine⟨?_,HB1.trans (HB2.mono HB1.size)⟩
 rw[HR.out,<-HS3.out,<-HSG.out];unfold Num.form;rw[HEX2.out,HFS.out]
 exact uo (fun q=>Ending.returned (Value.string q)) (by apply vI;simp)
theorem letter_fin: ∀j:Fin 4,(Cel.letter ((j.val:Int)+1))=[({data:= #[98,105,102,115]}:ByteArray).data.toList.getD j.val 0]/\Cel.letter ((j.val:Int)+5)=Cel.letter ((j.val:Int)+1)++[91,93]:=by decide+kernel
theorem refLetter_low (j:Fin 4) (w:World):
  Calls Tryz.prog 110 #[.int .i64 ((j.val:Int)+1)] w fun e w'=>e=.returned (.string ⟨(Cel.letter ((j.val:Int)+1)).toArray⟩)/\w=w':=by
 match j with
 |0|1|2|3=>
  go_enter Tryz.func110,Tryz.ntmps110;go_wp2;go_ret;exact⟨rfl,rfl⟩
theorem refLetter_any (k:Int) (w:World) (hk1:1<=k) (hk8:k<=8):
  Calls Tryz.prog 110 #[.int .i64 k] w fun e w'=>e=.returned (.string ⟨(Cel.letter k).toArray⟩)/\w=w':=by
 by_cases h4:k<=4
 ·obtain⟨j,rfl⟩: ∃j:Fin 4,k=(j.val:Int)+1:=⟨⟨(k - 1).toNat,by omega⟩,by simp;omega⟩
  exact refLetter_low j w
 obtain⟨j,rfl⟩: ∃j:Fin 4,k=(j.val:Int)+5:=⟨⟨(k - 5).toNat,by omega⟩,by simp;omega⟩
 have hc:=refLetter_low j w;have e:=(letter_fin j).2
 match j with
 |0|1|2|3=>
  have HC:=ah hc;clear hc e hk1 hk8 h4;go_enter Tryz.func110,Tryz.ntmps110
  go_wp2_with fail;refine HC.mono ?_;rintro e w1 ⟨rfl,rfl⟩;go_wp2;go_ret;exact⟨rfl,rfl⟩
theorem refNumS_any (k n:Int) (w:World) (hk1:1<=k) (hk3:k<=3) (hn:Cel.In64 n):
  Calls Tryz.prog 111 #[.int .i64 k,.int .i64 n] w fun e w'=>e=.returned (.string ⟨(Cel.numS k n).toArray⟩)/\Below w.heap.size w w':=by
 obtain⟨R,hR⟩:=aj (Cel.numS k n);rw[hR];unfold Cel.numS at hR;by_cases h2:k=2
 ·subst h2
  rw[rY rfl]at hR;have hc:=refFmtInt_any n w hn.1 hn.2;rw[hR]at hc;have HC:=ah hc
  clear hn hk1 hk3 hc hR;go_enter Tryz.func111,Tryz.ntmps111;go_wp2_with fail
  refine HC.mono ?_;rintro e w1 ⟨rfl,hb⟩;have HB:=ah hb;clear hb;go_wp2;go_ret
  exact⟨rfl,HB.out⟩
 by_cases h3:k=3
 ·subst h3
  rw[rU (by omega),rY rfl]at hR
  have hc:=refFmt_any (Cel.u64 n) w (Cel.u64_lt n);rw[hR]at hc;have hwr:=u64_wrap n
  obtain⟨b,hb⟩:=aj (Cel.u64 n);rw[hb]at hc hwr;have HC:=ah hc;have hu:=undef_no
  clear hn hk1 hk3 hc hR h2 hb;go_enter Tryz.func111,Tryz.ntmps111;go_wp2_with fail
  refine HC.mono ?_;rintro e w1 ⟨rfl,hb⟩;have HB:=ah hb;clear hb;go_wp2;go_ret
  exact⟨rfl,HB.out⟩
 obtain rfl:k=1:=by omega
 rw[rU (by omega),rU (by omega)]at hR
 by_cases h0:n=0
 ·subst h0
  rw[rY rfl]at hR;subst hR;clear hn hk1 hk3 h2 h3;go_enter Tryz.func111,Tryz.ntmps111
  go_wp2;go_ret;exact⟨rfl,Below.refl _ _⟩
 rw[rU h0]at hR;subst hR;have t0:(n == 0)=false:=rX.2 h0;clear hn hk1 hk3 h2 h3 h0
 go_enter Tryz.func111,Tryz.ntmps111;go_wp2;go_ret;exact⟨rfl,Below.refl _ _⟩
structure RPRel (B:Nat) (w:World) (A C:List UInt8) (n:Nat) (acc:List UInt8) (v:Value) (wx:World):Prop where
 text:acc=A++C
 len:acc.length<=n
 bel:Below B w wx
 own:OwnG B v acc wx
theorem RPRel.next {B:Nat} {w:World} {A C C':List UInt8} {n n':Nat} {acc x:List UInt8} {v v':Value} {wx wz:World} (h:RPRel B w A C n acc v wx) (hc:C'=C++x) (hl:n+x.length<=n') (h1:Below B wx wz) (ho:OwnG B v' (acc++x) wz):RPRel B w A C' n' (acc++x) v' wz:=
 ⟨by rw[h.text,hc,sV],by rw[rP];have:=h.len;omega,h.bel.trans h1,ho⟩
theorem escT_app (a b:List UInt8):Cel.escT (a++b)=Cel.escT a++Cel.escT b:=by
 induction a with
 |nil=>rfl
 |cons c a ih=>
  rw[uG,Cel.escT,Cel.escT]
  split<;>rw[ih]<;>rfl
theorem escT_take {y:List UInt8} {m:Nat} {c:UInt8} (h:y[m]?=some c):Cel.escT (y.take (m+1))=Cel.escT (y.take m) ++(if c=92\/c=59 then[92,c] else[c]):=by
 obtain⟨hm,e⟩:=rZ.1 h;rw[vC hm,escT_app,e]
 congr 1
theorem refPrint_any (B:Nat) (u:Value) (v:Cel.V) (w:World) (h:VIn w B u v) (hB:B<=w.heap.size):
  Calls Tryz.prog 63 #[u] w fun e w'=>e=.returned (.tuple #[.string ⟨(Cel.printR v).1.toArray⟩,.int .i64 ((Cel.printR v).2:Nat)])/\Below w.heap.size w w':=by
 have hch:=fun(W:World) (hb:Below w.heap.size w W)=>vCheck_any B u v W (h.below (hb.mono hB)) (rV hB hb.size)
 obtain⟨A1,c1,A2,c2,rfl,ra1,ra2⟩:=h.ex;have hnum:=h.num;have hnums:=h.nums;have hnl:=h.nl
 have hsl:=h.sl;clear h;obtain⟨R,hR⟩:=aj (Cel.printR v);rw[hR];unfold Cel.printR at hR
 have hcp:=fun h=>Cel.check_parts (v:=v) h
 have hpl:=fun h=>cel_print_len (v:=v) h hnum hnums
 obtain⟨cv,hcv⟩:=aj (Cel.check v);rw[hcv]at hch hR hcp hpl
 have hpr:Cel.print v=Cel.letter v.kind++[58] ++(if v.kind<4 then Cel.numS v.kind v.num else[])++v.text++v.nums.flatMap (Cel.numE (v.kind - 4))++v.texts.flatMap Cel.textE:=rfl
 obtain⟨pv,hpv⟩:=aj (Cel.print v);rw[hpv]at hpr hR hpl;clear hcv hpv
 obtain⟨k0,n0,t0,ns,ts⟩:=v;simp only at ra1 ra2 hnum hnums hch hcp hpr hnl hsl⊢
 obtain⟨nn,hnn⟩:=aj ns.length;obtain⟨tn,htn⟩:=aj ts.length
 obtain⟨z,hz⟩:=aj (⟨t0.toArray⟩:ByteArray)
 have hzs:z.size=t0.length:=by rw[<-hz];exact size_list _
 have hzd:z.data.toList=t0:=by rw[<-hz]
 rw[hnn]at ra1 hch hnl⊢;rw[htn]at ra2 hch hsl⊢;rw[hz]at hch⊢
 obtain⟨W1,hW1⟩:=aj (w.alloc (.cells #[.int .i64 k0,.int .i64 n0,.string z,.slice A1 nn c1,.slice A2 tn c2] 51))
 have hb1:Below w.heap.size w W1:=by rw[<-hW1];exact(Below.refl _ w).alloc (rM _) _
 have k1:Blk W1 w.heap.size 51 #[.int .i64 k0,.int .i64 n0,.string z,.slice A1 nn c1,.slice A2 tn c2]:=by rw[<-hW1];exact Blk.new _ _ _
 have RA1:=ah (ra1.below (hb1.mono hB));have RA2:=ah (ra2.below (hb1.mono hB))
 have HB1:=ah hb1;have HW1:=ah hW1;have HCH:=ah (hch W1 hb1);have HNN:=ah hnn
 have HTN:=ah htn;have HNUM:=ah hnum;have HNUMS:=ah hnums;have HKB:=ah k1;have HPR:=ah hpr
 have HR:=ah hR;have HCP:=ah hcp;have HPL:=ah hpl;have HZS:=ah hzs;have HZD:=ah hzd
 obtain⟨a0,a1,a2,a3,a4,-⟩:=val_cells k1
 clear ra1 ra2 hnn htn hz k1 hb1 hW1 hch hnum hnums hpr hR hcp hpl hzs hzd
 have hu:=undef_no;go_enter Tryz.func63,Tryz.ntmps63
 go_upto_region 1 with fail
 rw[HW1.out];clear HW1;go_wp2_with fail;refine HCH.mono ?_;rintro e w2 ⟨rfl,hb2⟩
 have HB2:=ah (HB1.trans (hb2.mono HB1.size));have HK2:=ah (HKB.below hb2 HKB.lt)
 have hwz:=HB1.size;have RA1':=ah (RA1.out.below (hb2.mono (rV hB hwz)))
 have RA2':=ah (RA2.out.below (hb2.mono (rV hB hwz)))
 clear hb2 a0 a1 a2 a3 a4 HCH RA1 RA2 HKB;have hsz2:=HB2.size
 obtain⟨a0,a1,a2,a3,a4,-⟩:=val_cells HK2.out;by_cases hc0:cv=0
 case neg=>
  have hr:R=([],cv):=by rw[<-HR.out,rU hc0]
  have HRR:=ah hr;have t0:((cv:Int) !=0)=true:=by rw[tH];omega
  clear hr hc0;go_wp2
  go_ret2
  exact⟨by rw[HRR.out];rfl,HB2.out⟩
 subst hc0;have hr:R=(pv,0):=by rw[<-HR.out,rY rfl]
 have HRR:=ah hr;obtain⟨p1,p2,p3,p4,p5,p6,p7,p8⟩:=HCP.out rfl;unfold Cel.Unused at p3
 simp only[yS]at p3;obtain⟨u1,u2,u3,u4⟩:=p3;have hkl:=HK2.lt
 have HLC:=ah (refLetter_any k0 w2 p1 p2)
 obtain⟨L,hL⟩:=aj (⟨(Cel.letter k0).toArray⟩:ByteArray)
 have hLd:L.data.toList=Cel.letter k0:=by rw[<-hL]
 have hLs:L.size<=3:=by rw[Lib.size_eq,hLd];unfold Cel.letter;split<;>simp
 have hLl:(Cel.letter k0).length<=3:=by unfold Cel.letter;split<;>simp
 obtain⟨M,hM⟩:=aj (L ++⟨#[58]⟩:ByteArray)
 have hMd:M.data.toList=Cel.letter k0++[58]:=by rw[<-hM,yA,xw,hLd]
 have hMs:M.size<=4:=by rw[Lib.size_eq,hMd,rP,uh];omega
 have hcv:=Lib.run_convert_string_bytes (P:=Tryz.prog) w2 9 104 5 M Tryz.underlying9 Tryz.underlying104 Tryz.underlying5
 have hmade:=OwnG.made w2 w2.heap.size M (rM _) (by unfold maxLen;omega)
 have hmb:=bytesWorld_below w2 M;obtain⟨W3,hW3⟩:=aj (Lib.bytesWorld w2 5 M)
 obtain⟨g3,hg3⟩:=aj (grownCap w2 M.size 0 5);obtain⟨m3,hm3⟩:=aj M.size
 rw[hW3,hg3,hm3]at hmade hcv;rw[hW3]at hmb;rw[hMd]at hmade;rw[hL]at HLC
 have hLM:=hM;have HM3:=ah hmade;have HB3:=ah hmb;have hsz3:=hmb.size
 have HU:=ah (⟨u1,u2,u3,u4⟩:_/\_/\_/\_);have HP5:=ah (⟨p4,p5⟩:_/\_);have HP6:=ah p6
 have HP7:=ah p7;have HP8:=ah p8;have HPL0:=ah (HPL.out rfl)
 have p4n:nn<=40:=by rw[<-HNN.out];exact p4
 have p5n:tn<=40:=by rw[<-HTN.out];exact p5
 clear hr HR HPL HCP u1 u2 u3 u4 p4 p5 p6 p7 p8 hL hLd hM hMd hMs hmade hmb hW3 hg3 hm3
 have HK3:=ah (HK2.below HB3.out hkl);obtain⟨b0,b1,b2,b3,b4,-⟩:=val_cells HK3.out
 go_wp2_with fail;refine HLC.mono ?_;rintro e w2' ⟨rfl,rfl⟩;clear HLC
 go_upto_if 22 with fail
 clear hcv hLM;clear a0 a1 a2 a3 a4 b0 b1 b2 b3 b4
 go_cut [5] (fun s5 wx=> ∃acc,RPRel w2.heap.size w2 (Cel.letter k0++[58] ++(if k0<4 then Cel.numS k0 n0 else[])) [] 28 acc s5 wx)
 case first=>
  obtain⟨a0,a1,a2,a3,a4,-⟩:=val_cells HK3.out;by_cases h3:k0<4
  ·have d3:decide (k0<4)=true:=rQ h3
   have hw8:=HP8.out;have hel:=numS_len k0 n0 HNUM.out
   have hcall:=refNumS_any k0 n0 W3 p1 (by omega) HNUM.out
   obtain⟨E,hE⟩:=aj (⟨(Cel.numS k0 n0).toArray⟩:ByteArray)
   have hEs:E.size=(Cel.numS k0 n0).length:=by rw[<-hE];exact size_list _
   have hEd:E.data.toList=Cel.numS k0 n0:=by rw[<-hE]
   rw[hE]at hcall;have HC:=ah hcall;have HEd:=ah hEd;have hEl:E.size<=24:=by omega
   clear hw8 hel hcall hE hEs hEd;go_wp2_with fail;refine HC.mono ?_;rintro e w4 ⟨rfl,hb4⟩
   have HO4:=ah (HM3.below hb4);have HB4:=ah (HB3.trans (hb4.mono hsz3))
   have hsz4:=HB4.size;clear hb4
   have hl4:(Cel.letter k0++[58]).length+E.size<1073741824:=by rw[rP,uh];omega
   go_wp2_with (at_builtin;refine wpList_append_strG rfl (.tmp 23) (.tmp 28) rfl w2.heap.size _ (Cel.letter k0++[58]) w4 rfl HO4.out E rfl hl4 hsz4 ?_)
   intro v5 w5 ho5 hb5
   have hrel:RPRel w2.heap.size w2 (Cel.letter k0++[58] ++(if k0<4 then Cel.numS k0 n0 else[])) [] 28 (Cel.letter k0++[58]++E.data.toList) v5 w5:=⟨by rw[HEd.out,rY h3,tC],by rw[rP,<-Lib.size_eq,rP,uh];omega,HB4.trans hb5,by simpa using ho5⟩
   have HREL:=ah hrel;clear ho5 hb5 hrel;go_wp2;go_meet;exact⟨_,HREL.out⟩
  have d3:decide (k0<4)=false:=rO h3
  have hrel:RPRel w2.heap.size w2 (Cel.letter k0++[58] ++(if k0<4 then Cel.numS k0 n0 else[])) [] 28 (Cel.letter k0++[58]) _ W3:=⟨by rw[rU h3,tC,tC],by rw[rP,uh];omega,HB3.out,HM3.out⟩
  have HREL:=ah hrel;clear hrel;go_wp2;go_meet;exact⟨_,HREL.out⟩
 obtain⟨acc,hrel⟩:=hcut;have hlen:=hrel.len;have hszx:=hrel.bel.size;have HQ:=ah hrel
 obtain⟨A5,c5,rfl⟩:=hrel.own.form
 obtain⟨a0,a1,a2,a3,a4,-⟩:=val_cells (HK2.below hrel.bel hkl);clear hrel HK3 HM3 HB3
 have hz6:z.size<=1000:=by rw[HZS.out];exact HP6.out
 have ha6:acc.length+z.size<1073741824:=by omega
 go_wp2_with (at_builtin;refine wpList_append_strG rfl (.tmp 30) (.tmp 32) rfl w2.heap.size _ acc wc rfl HQ.own z rfl ha6 hszx ?_)
 intro v5 w5 ho5 hb5
 have hrel:RPRel w2.heap.size w2 (Cel.letter k0++[58] ++(if k0<4 then Cel.numS k0 n0 else[])++t0) [] 1028 (acc++z.data.toList) v5 w5:=⟨by rw[HZD.out,HQ.text,tC,tC],by rw[rP,<-Lib.size_eq];omega,HQ.bel.trans hb5,ho5⟩
 obtain⟨acc1,hacc1⟩:=aj (acc++z.data.toList)
 obtain⟨AA,hAA⟩:=aj (Cel.letter k0++[58] ++(if k0<4 then Cel.numS k0 n0 else[])++t0)
 have hPA:pv=AA++ns.flatMap (Cel.numE (k0 - 4))++ts.flatMap Cel.textE:=by rw[HPR.out,hAA]
 rw[hacc1,hAA]at hrel;have HREL:=ah hrel;have HPA:=ah hPA
 obtain⟨A6,c6,rfl⟩:=hrel.own.form
 clear ho5 hb5 hrel HQ hlen hszx ha6 hacc1 hAA hPA HPR a0 a1 a2 a3 a4;go_wp2_with fail
 go_loopg [5,6] nn (fun g s x wr=> ∃(k:Nat) (acc:List UInt8),x=.int .i64 k/\k+g=nn/\RPRel w2.heap.size w2 AA ((ns.take k).flatMap (Cel.numE (k0 - 4))) (1028+25*k) acc s wr)
 case atStart=>exact⟨0,acc1,rfl,by omega,HREL.out⟩
 clear HREL;obtain⟨k,acc,rfl,hk,hrel⟩:=hrel;have hlen:=hrel.len;have hszr:=hrel.bel.size
 have HQ:=ah hrel;have HK:=ah hk;obtain⟨A7,c7,rfl⟩:=hrel.own.form
 obtain⟨a0,a1,a2,a3,a4,-⟩:=val_cells (HK2.below hrel.bel hkl);clear hrel;cases gk with
 |zero=>
  obtain rfl:k=nn:=by omega
  have hfull:(ns.take k).flatMap (Cel.numE (k0 - 4))=ns.flatMap (Cel.numE (k0 - 4)):=by rw[sG (by have:=HNN.out;omega)]
  have hq:=HQ.out;rw[hfull]at hq;have HQ2:=ah hq;clear hfull hq hk HQ;go_wp2_with fail
  clear a0 a1 a2 a3 a4
  go_loopg [5,7] tn (fun g s x wr=> ∃(j:Nat) (acc:List UInt8),x=.int .i64 j/\j+g=tn/\RPRel w2.heap.size w2 (AA++ns.flatMap (Cel.numE (k0 - 4))) ((ts.take j).flatMap Cel.textE) (2100+2001*j) acc s wr)
  case atStart=>exact⟨0,acc,rfl,by omega,⟨by rw[HQ2.text];simp,by have:=HQ2.len;omega,HQ2.bel,HQ2.own⟩⟩
  clear hlen hszr HQ2;obtain⟨j,acc,rfl,hj,hrel⟩:=hrel;have hlen:=hrel.len
  have hszr:=hrel.bel.size;have HQ:=ah hrel;have HJ:=ah hj
  obtain⟨A8,c8,rfl⟩:=hrel.own.form
  obtain⟨a0,a1,a2,a3,a4,-⟩:=val_cells (HK2.below hrel.bel hkl);clear hrel;cases gk with
  |zero=>
   obtain rfl:j=tn:=by omega
   have hfin:acc=pv:=by
    rw[HQ.text,HPA.out,sG (by have:=HTN.out;omega)]
   have hcv:=HQ.own.conv;have HF:=ah hfin;clear hfin hj;go_wp2
   go_ret2
   exact⟨by rw[HRR.out,<-HF.out];rfl,HB2.trans (HQ.bel.mono hsz2)⟩
  |succ g=>
   have hjn:j<tn:=by omega
   have hjnI:(j:Int)<tn:=by omega
   have hjl:j<ts.length:=by rw[HTN.out];exact hjn
   obtain⟨p,o,x,rfl,hpb,hx,hp⟩:=(RA2'.out.below (HQ.bel.mono (by omega))).cell hjn
   rw[tu,ay hjl]at hx;obtain rfl:=(tN hx).symm;obtain⟨y,hy⟩:=aj (ts[j]);rw[hy]at hp
   unfold ST at hp;have hyj:ts[j]?=some y:=by rw[ay hjl,hy]
   have hyl:y.length<=1000:=longs_all HP7.out y (sK hyj)
   obtain⟨zy,hzy⟩:=aj (⟨y.toArray⟩:ByteArray);have hzyd:zy.data.toList=y:=by rw[<-hzy]
   have hzys:zy.size=y.length:=by rw[<-hzy];exact size_list _
   rw[hzy]at hp;have HZYD:=ah hzyd;obtain⟨yn,hyn⟩:=aj zy.size
   have hyn1:yn<=1000:=by omega
   have HYN:=ah hyn;have hfl:=ah (flat_take hyj Cel.textE)
   have HPW:=ah (fun(W:World) (hb:Below w2.heap.size wr W)=>(hb.cell (p:=⟨p,o+j,none⟩) (sZ hpb (rV hB hsz2))).trans hp)
   clear hx hj hjl hy hyj hyl hzy hzyd hzys hyn hp hpb;go_wp2_with fail
   clear a0 a1 a2 a3 a4
   go_loopg [5,8] yn (fun g s x wx=> ∃(m:Nat) (acc2:List UInt8),x=.int .i64 m/\m+g=yn/\RPRel w2.heap.size w2 acc (Cel.escT (y.take m)) (2100+2001*j+2*m) acc2 s wx/\Below w2.heap.size wr wx)
   case atStart=>exact⟨0,acc,rfl,by omega,⟨by simp[Cel.escT],by omega,HQ.bel,HQ.own⟩,Below.refl _ _⟩
   clear hlen hszr;obtain⟨m,acc2,rfl,hm,hrel,hbr⟩:=hrel;have hlen:=hrel.len
   have hszr:=hrel.bel.size;have HQ3:=ah hrel;have HM:=ah hm;have HBR:=ah hbr
   obtain⟨A9,c9,rfl⟩:=hrel.own.form
   obtain⟨a0,a1,a2,a3,a4,-⟩:=val_cells (HK2.below hrel.bel hkl);have hp:=HPW.out _ hbr
   have hal:acc2.length+1<1073741824:=by omega
   clear hrel hbr;cases gk with
   |zero=>
    obtain rfl:m=yn:=by omega
    have hq:=HQ3.out;rw[sG (by rw[<-HZYD.out,<-Lib.size_eq,HYN.out];exact rM _)]at hq
    have HQ4:=ah hq;have hd:=HYN.out;have t1:decide (m<zy.size)=false:=rO (by omega)
    clear hq hm HQ3 hd
    go_wp2_with (at_builtin;refine wpList_append_bytesG rfl (.tmp 92) (.tmp 93) rfl w2.heap.size (.slice A9 acc2.length c9) acc2 wr rfl HQ4.own [59] [.int .u8 59] rfl 1 rfl rfl hal hszr ?_)
    intro v9 w9 ho9 hb9
    have hte:acc2++[59]=acc++Cel.textE y:=by rw[HQ4.text];unfold Cel.textE;rw[sV]
    have htl:=HQ4.len
    have hsz9:(Cel.escT y).length<=2000:=by
     have h1:=escT_len y;have h2:y.length=zy.size:=by rw[Lib.size_eq,HZYD.out]
     have h3:=HYN.out;omega
    have htl2:(Cel.textE y).length<=2001:=by unfold Cel.textE;rw[rP,uh];omega
    rw[hte]at ho9
    have HN:=ah (HQ.next (n':=2100+2001*(j+1)) (x:=Cel.textE y) (v':=v9) hfl.out (by omega) (HBR.trans hb9) ho9)
    clear ho9 hb9 hte htl hsz9 htl2;go_wp2
    go_roundg g
    case measure=>omega
    exact⟨j+1,_,int_eq' (by omega),by have:=HJ.out;omega,HN.out⟩
   |succ g2=>
    have hmn:m<yn:=by omega
    have hmnI:(m:Int)<yn:=by omega
    have hmz:m<zy.size:=by rw[HYN.out];exact hmn
    have t1:decide (m<zy.size)=true:=rQ hmz;obtain⟨c,hc⟩:=aj (zy[m]'hmz)
    have hym:y[m]?=some c:=by rw[<-HZYD.out,get_list zy m hmz,hc]
    have HEM:=ah (escT_take hym);have hcb:=byte_le c
    have hnx:=fun(x:List UInt8) (v':Value) (wz:World) (hx:x=if c=92\/c=59 then[92,c] else[c]) (hb:Below w2.heap.size wr wz) (ho:OwnG w2.heap.size v' (acc2++x) wz)=>And.intro (HQ3.next (C':=Cel.escT (y.take (m+1))) (n':=2100+2001*j+2*(m+1)) (x:=x) (by rw[HEM.out,hx]) (by rw[hx];split<;>simp<;>omega) hb ho) (HBR.trans hb)
    have HNX:=ah hnx;clear hym hm hnx;by_cases hc92:c=92\/c=59
    ·have hal2:(acc2++[92]).length+1<1073741824:=by rw[rP,uh];omega
     have hx: [92,c]=if c=92\/c=59 then[92,c] else[c]:=by rw[rY hc92]
     have HX:=ah hx;clear hx HEM
     rcases hc92 with rfl|rfl
     ·go_wp2_with (at_builtin;refine wpList_append_bytesG rfl (.tmp 85) (.tmp 86) rfl w2.heap.size (.slice A9 acc2.length c9) acc2 wr rfl HQ3.own [92] [.int .u8 92] rfl 1 rfl rfl hal hszr ?_)
      intro v8 w8 ho8 hb8;have HO8:=ah ho8;have HB8:=ah hb8;have hsz8:=rV hszr hb8.size
      clear ho8 hb8
      go_wp2_with (at_builtin;refine wpList_append_bytesG rfl (.tmp 88) (.tmp 90) rfl w2.heap.size v8 (acc2++[92]) w8 rfl HO8.out [92] [.int .u8 92] rfl 1 rfl rfl hal2 hsz8 ?_)
      intro v9 w9 ho9 hb9
      have HN:=ah (HNX.out _ v9 w9 HX.out (HB8.trans hb9) (by simpa using ho9))
      clear ho9 hb9;go_wp2
      go_roundg g2
      case measure=>omega
      exact⟨m+1,_,int_eq' (by omega),by have:=HM.out;omega,HN.out.1,HN.out.2⟩
     go_wp2_with (at_builtin;refine wpList_append_bytesG rfl (.tmp 85) (.tmp 86) rfl w2.heap.size (.slice A9 acc2.length c9) acc2 wr rfl HQ3.own [92] [.int .u8 92] rfl 1 rfl rfl hal hszr ?_)
     intro v8 w8 ho8 hb8;have HO8:=ah ho8;have HB8:=ah hb8;have hsz8:=rV hszr hb8.size
     clear ho8 hb8
     go_wp2_with (at_builtin;refine wpList_append_bytesG rfl (.tmp 88) (.tmp 90) rfl w2.heap.size v8 (acc2++[92]) w8 rfl HO8.out [59] [.int .u8 59] rfl 1 rfl rfl hal2 hsz8 ?_)
     intro v9 w9 ho9 hb9
     have HN:=ah (HNX.out _ v9 w9 HX.out (HB8.trans hb9) (by simpa using ho9))
     clear ho9 hb9;go_wp2
     go_roundg g2
     case measure=>omega
     exact⟨m+1,_,int_eq' (by omega),by have:=HM.out;omega,HN.out.1,HN.out.2⟩
    have hx: [c]=if c=92\/c=59 then[92,c] else[c]:=by rw[rU hc92]
    have HX:=ah hx;simp only[yS]at hc92
    have t59:(((c.toNat:Nat):Int) == 59)=false:=bq (k:=59) rfl (rX.2 hc92.2)
    have t92:(((c.toNat:Nat):Int) == 92)=false:=bq (k:=92) rfl (rX.2 hc92.1)
    clear hx HEM hc92
    go_wp2_with (at_builtin;refine wpList_append_bytesG rfl (.tmp 88) (.tmp 90) rfl w2.heap.size (.slice A9 acc2.length c9) acc2 wr rfl HQ3.own [c] [.int .u8 (c.toNat:Int)] (byteCells_one _).symm 1 rfl rfl hal hszr ?_)
    intro v9 w9 ho9 hb9;have HN:=ah (HNX.out _ v9 w9 HX.out hb9 ho9);clear ho9 hb9;go_wp2
    go_roundg g2
    case measure=>omega
    exact⟨m+1,_,int_eq' (by omega),by have:=HM.out;omega,HN.out.1,HN.out.2⟩
 |succ g=>
  have hkn:k<nn:=by omega
  have hknI:(k:Int)<nn:=by omega
  have hkl':k<ns.length:=by rw[HNN.out];exact hkn
  obtain⟨p,o,x,rfl,hpb,hx,hp⟩:=(RA1'.out.below (HQ.bel.mono (by omega))).cell hkn
  rw[tu,ay hkl']at hx;obtain rfl:=(tN hx).symm;obtain⟨y,hy⟩:=aj (ns[k]);rw[hy]at hp
  unfold I64 at hp;have hyk:ns[k]?=some y:=by rw[ay hkl',hy]
  have hyi:Cel.In64 y:=HNUMS.out y (sK hyk)
  have hk5: ¬(k0<5\/k0=8):=fun e=>HU.out.2.2.1 ⟨fun h=>by rw[h]at hkl';simp at hkl',e⟩
  have h5i:5<=k0:=by omega
  have h7i:k0<=7:=by omega
  have hcall:=fun(W:World)=>refNumS_any (k0 - 4) y W (by omega) (by omega) hyi
  have hel:=numS_len (k0 - 4) y hyi
  obtain⟨E,hE⟩:=aj (⟨(Cel.numS (k0 - 4) y).toArray⟩:ByteArray)
  have hEs:E.size=(Cel.numS (k0 - 4) y).length:=by rw[<-hE];exact size_list _
  have hEd:E.data.toList=Cel.numS (k0 - 4) y:=by rw[<-hE]
  rw[hE]at hcall;have HC:=ah hcall;have HEd:=ah hEd;have hEl:E.size<=24:=by omega
  have hfl:=ah (flat_take hyk (Cel.numE (k0 - 4)))
  have hbd:Below wr.heap.size wr wr.drew:=below_drewN (Below.refl _ _) 1
  have HOD:=ah (HQ.own.below hbd);have hal:acc.length+E.size<1073741824:=by omega
  have hwr1:IntKind.i64.wrap (k0 - 4)=k0 - 4:=IntWalk.i64_in _ (by omega)
  have z1:(0:Int)<=(k:Int):=by omega
  have HBD:Hid (Below w2.heap.size wr wr.drew):=below_drewN (Below.refl _ _) 1
  have HKK:Hid (∀w',Below w2.heap.size wr w'->w'.cell? ⟨w.heap.size,0,none⟩=some (.int .i64 k0)/\w'.cell? ⟨w.heap.size,3,none⟩=some (.slice (some ⟨p,o,none⟩) nn c1)/\w'.cell? ⟨p,o+k,none⟩=some (.int .i64 y)):=fun w' hb=>
   ⟨(hb.cell (p:=⟨w.heap.size,0,none⟩) hkl).trans a0,(hb.cell (p:=⟨w.heap.size,3,none⟩) hkl).trans a3,(hb.cell (p:=⟨p,o+k,none⟩) (sZ hpb (rV hB hsz2))).trans hp⟩
  clear hx hk hkl' hy hyk hyi hk5 hcall hel hE hEs hEd hbd hpb;go_wp2_with fail
  go_region_held3 (fun w'=>w'.cell? ⟨w.heap.size,0,none⟩=some (.int .i64 k0)/\w'.cell? ⟨w.heap.size,3,none⟩=some (.slice (some ⟨p,o,none⟩) nn c1)/\w'.cell? ⟨p,o+k,none⟩=some (.int .i64 y)) (first|go_keep|exact HKK.out _ hq8|exact HKK.out _ hq|fail)
   ((first|(go_at_call 111;refine(HC.out _).mono ?_;rintro e w7 ⟨rfl,hb7⟩;have HO7:=ah (HOD.below hb7);have hq:Below w2.heap.size wr w7:=HBD.trans (hb7.mono hszr);have hz7:=hq.size;clear hb7)|(refine step_append_strG (by rfl) (.tmp 41) (.tmp 50) (by rfl) w2.heap.size _ acc _ (by rfl) HO7.out E (by rfl) hal (rV hszr hz7) ?_;intro v8 w8 ho8 hb8;have hq8:=hq.trans hb8)|fail))
  have HB8:=ah hq8;have HO8:=ah ho8;have hsz8:=rV hszr hq8.size
  have hal2:(acc++E.data.toList).length+1<1073741824:=by rw[rP,<-Lib.size_eq];omega
  clear hq8 ho8 hb8 hq hz7 HO7 HKK HOD HBD a0 a1 a2 a3 a4 hp
  go_wp2_with (at_builtin;refine wpList_append_bytesG rfl (.tmp 52) (.tmp 53) rfl w2.heap.size v8 (acc++E.data.toList) w8 rfl HO8.out [59] [.int .u8 59] rfl 1 rfl rfl hal2 hsz8 ?_)
  intro v9 w9 ho9 hb9
  have HN:=ah (HQ.next (n':=1028+25*(k+1)) (x:=Cel.numE (k0 - 4) y) (v':=v9) hfl.out (by unfold Cel.numE;rw[rP,uh,<-HEd.out,<-Lib.size_eq];omega) (HB8.trans hb9) (by unfold Cel.numE;rw[<-HEd.out];simpa using ho9))
  clear ho9 hb9;go_wp2
  go_roundg g
  case measure=>omega
  exact⟨k+1,_,int_eq' (by omega),by have:=HK.out;omega,HN.out⟩
theorem jc (n:Int) (w:World) (h0: -9223372036854775808<=n) (h1:n<=9223372036854775807):
  Calls Tryz.prog 27 #[.int .i64 n] w fun e w'=>e=.returned (.string ⟨(Lib.itoa n).toArray⟩)/\Below w.heap.size w w':=by
 have H:=ah (refFmtInt_any n w h0 h1);clear h0 h1;go_enter Tryz.func27,Tryz.ntmps27
 go_wp2_with fail;refine H.out.mono ?_;rintro e w1 ⟨rfl,hb⟩;have HB:=ah hb;clear hb;go_wp2
 go_ret;exact⟨rfl,HB.out⟩
theorem oL {ps:List Gr.P} {k:List UInt8} (h: ∀p∈ps,p.key≠k):Tb.fieldOf ps k=[]:=by
 unfold Tb.fieldOf;rw[BK.2 fun p hp=>by simpa using h p hp]
theorem oM {ps:List Gr.P} {k:List UInt8} {p:Gr.P} {i:Nat} (hp:ps[i]?=some p) (hk:p.key=k) (h: ∀q∈ps.take i,q.key≠k):Tb.fieldOf ps k=Cel.print p.val:=by
 unfold Tb.fieldOf
 conv=>lhs;rw[<-uz i ps,dQ hp]
 rw[BU,BK.2 fun q hq=>by simpa using h q hq,List.find?_cons_of_pos (by simpa using hk)]
 rfl
theorem lQ (B:Nat) (z:ByteArray) (Ap:Option Addr) (cp:Nat) (ps:List Gr.P) (w:World) (hp:Lst w B 6 (PropC w B) Ap ps) (hpl:ps.length<=1073741824) (hok: ∀p∈ps,POk p/\Cel.check p.val=0) (hB:B<=w.heap.size):
  Calls Tryz.prog 28 #[.string z,.slice Ap ps.length cp] w fun e w'=>e=.returned (.string ⟨(Tb.fieldOf ps z.data.toList).toArray⟩)/\Below w.heap.size w w':=by
 obtain⟨pn,hpn⟩:=aj ps.length;rw[hpn]at hpl⊢;obtain⟨k0,hk0⟩:=aj z.data.toList;rw[hk0]
 obtain⟨R,hR⟩:=aj (Tb.fieldOf ps k0);rw[hR];have HP:=ah hp;have HPN:=ah hpn
 have HK0:=ah hk0;have HR:=ah hR;have HOK:=ah hok;have HBw:=ah hB
 clear hp hpn hk0 hR hok hB;go_enter Tryz.func28,Tryz.ntmps28;go_wp2_with fail
 go_loopg [5] pn (fun q x wr=> ∃k:Nat,x=.int .i64 k/\k+q=pn/\w=wr/\Hid (∀p∈ps.take k,p.key≠k0))
 case atStart=>exact⟨0,rfl,by omega,rfl,fun p hp=>by simp at hp⟩
 obtain⟨k,rfl,hk,rfl,he⟩:=hrel;have HK:=ah hk;cases gk with
 |zero=>
  obtain rfl:k=pn:=by omega
  have hr:R=[]:=by
   rw[<-HR.out];refine oL fun p hp=>he.out p ?_
   rw[sG (by rw[HPN.out];exact rM _)]
   exact hp
  subst hr;clear he hk;go_wp2;go_ret;exact⟨rfl,Below.refl _ _⟩
 |succ q=>
  have hkn:k<pn:=by omega
  have hknI:(k:Int)<pn:=by omega
  obtain⟨p,hpk⟩: ∃p,ps[k]?=some p:=⟨_,ay (by rw[HPN.out];exact hkn)⟩
  obtain⟨pb,off,cs,rfl,hpb,⟨An,cn,At,ct,rfl,r1,r2⟩,-,hcell⟩:=HP.out k p hpk
  have d0:=hcell 0 _ rfl;have d1:=hcell 1 _ rfl;have d2:=hcell 2 _ rfl
  have d3:=hcell 3 _ rfl;have d4:=hcell 4 _ rfl;have d5:=hcell 5 _ rfl;rw[vw]at d0
  obtain⟨zk,hzk⟩:=aj (⟨p.key.toArray⟩:ByteArray)
  obtain⟨zt,hzt⟩:=aj (⟨p.val.text.toArray⟩:ByteArray)
  have e1:ST p.key=.string zk:=by rw[<-hzk];rfl
  have e2:ST p.val.text=.string zt:=by rw[<-hzt];rfl
  rw[e1]at d0;rw[e2]at d3;obtain⟨hpok,hchk⟩:=HOK.out p (sK hpk)
  have hpr:=refPrint_any B _ p.val w (show VIn w B (.agg #[.int .i64 p.val.kind,.int .i64 p.val.num,.string zt,.slice An p.val.nums.length cn,.slice At p.val.texts.length ct]) p.val by rw[<-e2];exact vin_of hpok.val r1 r2) HBw.out
  rw[show Cel.printR p.val=(Cel.print p.val,0) by unfold Cel.printR;rw[rY hchk]]at hpr
  have HPR:=ah hpr;obtain⟨b,hb⟩:=aj (zk.toList == z.toList)
  have hkk:(p.key=k0)↔b=true:=by rw[<-hb,uw,Lib.toList_data,Lib.toList_data,HK0.out,<-hzk]
  have HKK:=ah hkk;have HPK:=ah hpk
  clear hpk hpb r1 r2 hcell hzk hzt e1 e2 hpok hchk hpr hkk hk;cases b with
  |true=>
   have hr:R=Cel.print p.val:=by rw[<-HR.out];exact oM HPK.out (HKK.out.2 rfl) he.out
   subst hr;go_wp2_with fail;refine HPR.mono ?_;rintro e w1 ⟨rfl,b1⟩;have HB1:=ah b1
   clear b1 he;go_wp2;go_ret;exact⟨rfl,HB1.out⟩
  |false=>
   have HE:=ah (show∀x∈ps.take (k+1),x.key≠k0 from fun x hx=>by
    rw[uM,HPK.out]at hx
    rcases tZ.1 hx with hx|hx
    ·exact he.out x hx
    rw[ug.1 hx];exact fun e=>by have:=HKK.out.1 e;cases this)
   clear he;go_wp2
   go_roundg q
   case measure=>omega
   exact⟨k+1,int_eq (by omega),by have:=HK.out;omega,rfl,HE⟩
end Go.Proofs.YtanlehkalkafdaaGreatDoor
