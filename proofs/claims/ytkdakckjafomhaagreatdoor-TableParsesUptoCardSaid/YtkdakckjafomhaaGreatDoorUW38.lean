/- Contracts and plain laws,part 38. -/
import Derived.Test.YtkdakckjafomhaaGreatDoorUW37
import Derived.Lib.FrozenHead2
import Derived.Lib.ConvBytes
set_option maxHeartbeats 64000000
set_option maxRecDepth 1000000
set_option linter.all false
namespace Go.Proofs.YtkdakckjafomhaaGreatDoor
open Go.RowKit
theorem alI (l:List UInt8) (s:Nat):Num.iq 0 l s=(s,l,0):=by cases l<;>rfl
theorem alJ (k s:Nat):Num.iq k [] s=(s,[],k):=by cases k<;>rfl
theorem acO (k:Nat) (c:UInt8) (r:List UInt8) (s:Nat) (h:Num.zY c=true):Num.iq k (c :: r) s=(s,c :: r,k):=by
 cases k with
 |zero=>rfl
 |succ k=>simp only[Num.iq];rw[adk h]
theorem alK (k:Nat) (c:UInt8) (r:List UInt8) (s:Nat) (h:Num.zY c=false):Num.iq (k+1) (c :: r) s=Num.iq k r (s*16+Num.vH c):=by
 simp only[Num.iq];rw[h];simp
theorem alL (l:List UInt8) (e:Nat):Num.mJ 0 l e=e:=by cases l<;>rfl
theorem alM (k e:Nat):Num.mJ k [] e=e:=by cases k<;>rfl
theorem alN (k:Nat) (c:UInt8) (r:List UInt8) (e:Nat):Num.mJ (k+1) (c :: r) e=Num.mJ k r (e*10+c.toNat % 16):=rfl
theorem drop_at {s:ByteArray} {k:Nat} (h:k<s.size):s.data.toList.drop k=s[k] :: s.data.toList.drop (k+1):=by
 have h1:k<s.data.toList.length:=by rw[<-Lib.size_eq];exact h
 rw[aez h1];rfl
theorem drop_end {s:ByteArray} {k:Nat} (h:s.size<=k):s.data.toList.drop k=[]:=amY (by rw[<-Lib.size_eq];exact h)
theorem XZ:(16:Nat) ^ 13=4503599627370496:=by decide
theorem alO (s:ByteArray) (w:World) (hs:s.size<=1073741824):
  Calls Tryz.prog 225 #[.string s] w fun e w'=>e=.returned (.int .u64 (Num.guess s.data.toList:Nat))/\w=w':=by
 by_cases h5:s.size<5
 ·have hg:Num.guess s.data.toList=0:=by unfold Num.guess;rw[adk (by rw[<-Lib.size_eq];exact h5)]
  have h5':(s.size:Int)<=4:=by omega
  rw[hg];clear hg;go_enter Tryz.func225,Tryz.ntmps225;go_wp2;go_ret;exact⟨rfl,rfl⟩
 have h5':(5:Int)<=s.size:=by omega
 have hlt3:3<s.size:=by omega
 obtain⟨A,hA⟩:=aj (if s.data.toList[3]?=some 46 then 4 else 3)
 have hA1:3<=A/\A<=4:=by rw[<-hA];split<;>omega
 have hg:Num.guess s.data.toList=Num.EJ (Num.iq 13 (s.data.toList.drop A) 1):=by
  unfold Num.guess;rw[ade (by rw[<-Lib.size_eq];exact h5),<-hA]
  split<;>rfl
 obtain⟨RES,NP⟩:=aj (Num.guess s.data.toList);rw[NP]at hg⊢;have kD:=ah hg
 have hget:=Lib.data_getElem? s 3 hlt3;rw[hget]at hA;have HA:=ah hA
 clear hA hg hget NP h5;go_enter Tryz.func225,Tryz.ntmps225
 go_upto_if 14 with fail
 go_cut [5] (fun s5 wx=>s5=.int .i64 (A:Int)/\w=wx)
 case first=>
  by_cases h46:s[3]'hlt3=46
  ·have t1:(((s[3]'hlt3).toNat:Int) == 46)=true:=by rw[h46];rfl
   have hAv:A=4:=by have:=HA.out;rw[h46,adk rfl]at this;exact this.symm
   subst hAv;clear HA h46;go_wp2_with fail;go_meet;exact⟨rfl,rfl⟩
  have t1:(((s[3]'hlt3).toNat:Int) == 46)=false:=by
   rw[adh];intro e;exact h46 (afi.1 (by show(s[3]'hlt3).toNat=46;omega))
  have hAv:A=3:=by have:=HA.out;rw[ade (by simpa using h46)]at this;exact this.symm
  subst hAv;clear HA h46;go_wp2_with fail;go_meet;exact⟨rfl,rfl⟩
 obtain⟨rfl,rfl⟩:=hcut;clear HA;obtain⟨hA1,hA2⟩:=hA1;have hA3:A<=s.size:=by omega
 obtain⟨Y,hY⟩:=aj (Num.iq 13 (s.data.toList.drop A) 1);have hres:=kD.out;rw[hY]at hres
 have X0:=Num.SL 13 (s.data.toList.drop A) 1 2 (by omega)
 rw[hY]at X0;have HY:=ah hY;have HR:=ah hres;have HYB:=ah X0;clear hY hres kD X0
 go_upto_block 0 with fail
 go_cut [3,4,5] (fun s3 s4 s5 wx=> ∃(sig k i:Nat),Y=(sig,s.data.toList.drop i,k)/\k<=13/\i<=s.size/\s3=.int .u64 (sig:Int)/\s4=.int .i64 (13 -(k:Int))/\s5=.int .i64 (i:Int)/\w=wx)
 case first=>
  go_wp2_with fail
  go_loopg [3,4,5] 13 (fun g s3 s4 s5 wr=> ∃(sig i:Nat),Num.iq g (s.data.toList.drop i) sig=Y/\g<=13/\i<=s.size/\sig<2*16 ^(13 - g)/\s3=.int .u64 (sig:Int)/\s4=.int .i64 (13 -(g:Int))/\s5=.int .i64 (i:Int)/\w=wr)
  case atStart=>exact⟨1,A,HY.out,by omega,hA3,by decide,rfl,rfl,rfl,rfl⟩
  obtain⟨sig,i,hyy,hg,hi,hsig,rfl,rfl,rfl,rfl⟩:=hrel;have NR:=ah hyy
  have hsb:sig<9007199254740992:=by
   have e1:2*16 ^(13 - gk)<=2*16 ^ 13:=afZ _ (afa (by decide) (by omega))
   have e2:=XZ;omega
  have afH:=ah hsig;clear hyy hsig;have ii:(i:Int)<=1073741824:=by omega
  have gi:(gk:Int)<=13:=by omega
  by_cases hend:s.size<=i
  ·have t1:decide (i<s.size)=false:=ac5 (by omega)
   have hl:=drop_end hend;have hy2:Y=(sig,s.data.toList.drop i,gk):=by rw[<-NR.out,hl,alJ]
   have Ho:=ah hy2;clear hl hy2 hsb;go_wp2_with fail;go_meet
   exact⟨sig,gk,i,Ho.out,hg,hi,rfl,rfl,rfl,rfl⟩
  have hlt:i<s.size:=by omega
  have hi3:(i:Int)<s.size:=by omega
  have hdrop:=drop_at hlt;obtain⟨c,hc⟩:=aj (s[i]'hlt);rw[hc]at hdrop;clear hend
  by_cases hp:c=112
  ·have t1:(((s[i]'hlt).toNat:Int) !=112)=false:=by rw[hc,hp];rfl
   have hy2:Y=(sig,s.data.toList.drop i,gk):=by rw[<-NR.out,hdrop,acO _ _ _ _ (by rw[hp];rfl)]
   have Ho:=ah hy2;clear hy2 hsb hdrop hc hp;go_wp2_with fail;go_meet
   exact⟨sig,gk,i,Ho.out,hg,hi,rfl,rfl,rfl,rfl⟩
  have t1:(((s[i]'hlt).toNat:Int) !=112)=true:=by
   rw[hc,adY];intro e;exact hp (afi.1 (by show c.toNat=112;omega))
  by_cases hm:c=109
  ·have t2:(((s[i]'hlt).toNat:Int) !=109)=false:=by rw[hc,hm];rfl
   have hy2:Y=(sig,s.data.toList.drop i,gk):=by rw[<-NR.out,hdrop,acO _ _ _ _ (by rw[hm];rfl)]
   have Ho:=ah hy2;clear hy2 hsb hdrop hc hm hp;go_wp2_with fail;go_meet
   exact⟨sig,gk,i,Ho.out,hg,hi,rfl,rfl,rfl,rfl⟩
  have t2:(((s[i]'hlt).toNat:Int) !=109)=true:=by
   rw[hc,adY];intro e;exact hm (afi.1 (by show c.toNat=109;omega))
  have hpm:Num.zY c=false:=by simp[Num.zY,hp,hm]
  cases gk with
  |zero=>
   have hy2:Y=(sig,s.data.toList.drop i,0):=by rw[<-NR.out,alI]
   have Ho:=ah hy2;clear hy2 hsb hdrop hc hm hp hpm;go_wp2_with fail;go_meet
   exact⟨sig,0,i,Ho.out,hg,hi,rfl,rfl,rfl,rfl⟩
  |succ g=>
   have X3:sig<562949953421312:=by
    have h1:=afH.out
    have e1:2*16 ^(13 -(g+1))<=2*16 ^ 12:=afZ _ (afa (by decide) (by omega))
    have e2:(16:Nat) ^ 12=281474976710656:=by decide
    omega
   have NS: ∀d,d<16->sig*16+d<2*16 ^(13 - g):=by
    intro d hd;have h1:=afH.out
    have e1:2*16 ^(13 - g)=(2*16 ^(13 -(g+1)))*16:=by
     rw[show 13 - g=(13 -(g+1))+1 by omega,afk,afY]
    omega
   have si:(sig:Int)<562949953421312:=by omega
   have hy2:Num.iq g (s.data.toList.drop (i+1)) (sig*16+Num.vH c)=Y:=by rw[<-NR.out,hdrop,alK _ _ _ _ hpm]
   obtain⟨P,hP⟩:=aj (13 -((g+1:Nat):Int):Int);rw[hP]
   have tP:decide (P<13)=true:=adb (by omega)
   have pP:P<=12:=by omega
   have pP0:0<=P:=by omega
   have HP:=ah hP;clear hP gi;have hcv:(c.toNat:Int)<=255:=by have:=anZ c;omega
   by_cases hr:97<=c.toNat/\c.toNat<=102
   ·have hd:Num.vH c=c.toNat - 87:=by unfold Num.vH;rw[adk hr]
    have t3:decide (97<=((s[i]'hlt).toNat:Int))=true:=by rw[hc];exact adb (by omega)
    have t4:decide (((s[i]'hlt).toNat:Int)<=102)=true:=by rw[hc];exact adb (by omega)
    have b1:(97:Int)<=(s[i]'hlt).toNat:=by rw[hc];omega
    have b2:((s[i]'hlt).toNat:Int)<=102:=by rw[hc];omega
    rw[hd]at hy2;have hN:=NS (c.toNat - 87) (by omega)
    have HD:=ah hy2;have HN:=ah hN;have HC:=ah hc;have HRR:=ah hr
    clear hy2 hN hd hr NS X3 hsb hdrop hc hm hp hpm hcv;go_wp2
    go_roundg g
    case measure=>omega
    exact⟨sig*16+(c.toNat - 87),i+1,HD.out,by omega,by omega,HN.out,int_eq' (by rw[HC.out];have:=HRR.out;omega),int_eq' (by have:=HP.out;omega),int_eq' (by omega),rfl⟩
   have hd:Num.vH c=c.toNat % 16:=by unfold Num.vH;rw[ade hr]
   rw[hd]at hy2;have hN:=NS (c.toNat % 16) (by omega)
   have HD:=ah hy2;have HN:=ah hN;have HC:=ah hc
   have b0:((s[i]'hlt).toNat:Int)<=255:=by rw[hc];omega
   have b1:(0:Int)<=(s[i]'hlt).toNat:=by omega
   by_cases h97:c.toNat<97
   ·have t3:decide (97<=((s[i]'hlt).toNat:Int))=false:=by rw[hc];exact ac5 (by omega)
    clear hy2 hN hd hr NS X3 hsb hdrop hc hm hp hpm hcv h97;go_wp2
    go_roundg g
    case measure=>omega
    exact⟨sig*16+c.toNat % 16,i+1,HD.out,by omega,by omega,HN.out,int_eq' (by rw[HC.out];omega),int_eq' (by have:=HP.out;omega),int_eq' (by omega),rfl⟩
   have t3:decide (97<=((s[i]'hlt).toNat:Int))=true:=by rw[hc];exact adb (by omega)
   have t4:decide (((s[i]'hlt).toNat:Int)<=102)=false:=by rw[hc];exact ac5 (by omega)
   clear hy2 hN hd hr NS X3 hsb hdrop hc hm hp hpm hcv h97;go_wp2
   go_roundg g
   case measure=>omega
   exact⟨sig*16+c.toNat % 16,i+1,HD.out,by omega,by omega,HN.out,int_eq' (by rw[HC.out];omega),int_eq' (by have:=HP.out;omega),int_eq' (by omega),rfl⟩
 obtain⟨sig,k,i,rfl,hk,hi,rfl,rfl,rfl,rfl⟩:=hcut
 have hyb:sig*16 ^ k<9007199254740992:=by
  have h1:=HYB.out;have e:=XZ;simp only at h1;omega
 obtain⟨S,hS⟩:=aj (sig*16 ^ k);rw[hS]at hyb;have hr:=HR.out
 have ht:Num.EJ (sig,s.data.toList.drop i,k)=match s.data.toList.drop i with
  |[]=>0
  |c :: r=>Num.CU (Num.oD 64 S (Num.tX c (Num.mJ 4 r 0))):=by rw[<-hS];rfl
 rw[ht]at hr;have HR2:=ah hr;have HS:=ah hS;have Bc:=ah hyb;clear ht hr HR HY HYB hS hyb
 go_upto_block 2 with fail
 go_cut [3,4] (fun s3 s4 wx=>s3=.int .u64 (S:Int)/\s4=.int .i64 13/\w=wx)
 case first=>
  go_wp2_with fail
  go_loopg [3,4] k (fun g s3 s4 wr=> ∃x:Nat,x*16 ^ g=S/\g<=13/\s3=.int .u64 (x:Int)/\s4=.int .i64 (13 -(g:Int))/\w=wr)
  case atStart=>exact⟨sig,HS.out,hk,rfl,rfl,rfl⟩
  obtain⟨x,hx,hg,rfl,rfl,rfl⟩:=hrel;obtain⟨P,hP⟩:=aj (13 -(gk:Int):Int);rw[hP]
  have pP:P<=13:=by omega
  have pP0:0<=P:=by omega
  have HP:=ah hP;have HX:=ah hx;cases gk with
  |zero=>
   have tP:decide (P<13)=false:=ac5 (by omega)
   clear hP hx;go_wp2_with fail;go_meet
   exact⟨int_eq' (by have:=HX.out;rw[Nat.pow_zero,arw]at this;omega),int_eq' (by have:=HP.out;omega),rfl⟩
  |succ g=>
   have tP:decide (P<13)=true:=adb (by omega)
   have hx2:x*16<9007199254740992:=by
    have h1:=Bc.out;rw[<-hx,afk,afV (16 ^ g),<-afY]at h1
    have h2:=aoZ (x*16) (ano (n:=g) (show 0<16 by decide))
    omega
   have xi:(x:Int)<562949953421312:=by omega
   have hx3:x*16*16 ^ g=S:=by rw[<-hx,afk,afV (16 ^ g),<-afY]
   have pX:=ah hx3;clear hP hx hx2 hx3;go_wp2
   go_roundg g
   case measure=>omega
   exact⟨x*16,pX.out,by omega,int_eq' (by omega),int_eq' (by have:=HP.out;omega),rfl⟩
 obtain⟨rfl,rfl,rfl⟩:=hcut;clear HS;by_cases hend:s.size<=i
 ·have t1:decide (s.size<=i)=true:=adb hend
  have hr:RES=0:=by rw[HR2.out,drop_end hend]
  have HR3:=ah hr;clear hr hend;go_wp2;go_ret;exact⟨by rw[HR3.out];rfl,rfl⟩
 have hlt:i<s.size:=by omega
 have hi3:(i:Int)<s.size:=by omega
 have ii:(i:Int)<=1073741824:=by omega
 have t1:decide (s.size<=i)=false:=ac5 hend;obtain⟨c,hc⟩:=aj (s[i]'hlt)
 have hdrop:=drop_at hlt;rw[hc]at hdrop
 obtain⟨X,hX⟩:=aj (Num.mJ 4 (s.data.toList.drop (i+1)) 0)
 have hxb:X<=20000:=by
  rw[<-hX];have:=Num.YK 4 (s.data.toList.drop (i+1)) 0;omega
 have hr:RES=Num.CU (Num.oD 64 S (Num.tX c X)):=by rw[HR2.out,hdrop,<-hX]
 have HX:=ah hX;have HR3:=ah hr;have HC:=ah hc;clear HR2 hr hX hdrop hc hend
 go_upto_block 4 with fail
 go_cut [7,8] (fun s7 s8 wx=>s7=.int .i64 (X:Int)/\w=wx)
 case first=>
  go_wp2_with fail
  go_loopg [7,8] 4 (fun g s7 s8 wr=> ∃(x j:Nat),Num.mJ g (s.data.toList.drop j) x=X/\j+g=i+5/\g<=4/\x+2<=2*10 ^(4 - g)/\s7=.int .i64 (x:Int)/\s8=.int .i64 (j:Int)/\w=wr)
  case atStart=>exact⟨0,i+1,HX.out,by omega,by omega,by decide,rfl,int_eq' (by omega),rfl⟩
  obtain⟨x,j,hx,hj,hg,afI,rfl,rfl,rfl⟩:=hrel
  have xi:(x:Int)<=20000:=by
   have e1:2*10 ^(4 - gk)<=2*10 ^ 4:=afZ _ (afa (by decide) (by omega))
   omega
  have ji:(j:Int)<=1073741832:=by omega
  have HJ:=ah hj;have IU:=ah hx;have HXB:=ah afI;clear hj afI;by_cases hend:s.size<=j
  ·have t2:decide (j<s.size)=false:=ac5 (by omega)
   rw[drop_end hend,alM]at hx;have jg:=ah hx;clear hx hend;go_wp2_with fail;go_meet
   exact⟨int_eq' (by have:=jg.out;omega),rfl⟩
  have hjlt:j<s.size:=by omega
  have t2:decide (j<s.size)=true:=adb hjlt;cases gk with
  |zero=>
   have t3:decide ((j:Int)<(i:Int)+5)=false:=ac5 (by have:=HJ.out;omega)
   rw[alL]at hx;have jg:=ah hx;clear hx hend;go_wp2_with fail;go_meet
   exact⟨int_eq' (by have:=jg.out;omega),rfl⟩
  |succ g=>
   have t3:decide ((j:Int)<(i:Int)+5)=true:=adb (by have:=HJ.out;omega)
   have ji3:(j:Int)<s.size:=by omega
   obtain⟨d,hd⟩:=aj (s[j]'hjlt);have hdr:=drop_at hjlt;rw[hd]at hdr;rw[hdr,alN]at hx
   have hN:x*10+d.toNat % 16+2<=2*10 ^(4 - g):=by
    have h1:=HXB.out;rw[show 4 - g=(4 -(g+1))+1 by omega,afk,<-afY]
    omega
   have d1:((s[j]'hjlt).toNat:Int)<=255:=by have:=anZ (s[j]'hjlt);omega
   have d0:(0:Int)<=(s[j]'hjlt).toNat:=by omega
   have jg:=ah hx;have HN:=ah hN;have HD:=ah hd;clear hx hend hdr hN hd;go_wp2
   go_roundg g
   case measure=>omega
   exact⟨x*10+d.toNat % 16,j+1,jg.out,by have:=HJ.out;omega,by omega,HN.out,int_eq' (by rw[HD.out];omega),int_eq' (by omega),rfl⟩
 obtain⟨rfl,rfl⟩:=hcut;obtain⟨E,hE⟩:=aj (Num.tX c X);have hr:=HR3.out;rw[hE]at hr
 have hEb: -20000<=E/\E<=20000:=by rw[<-hE];unfold Num.tX;split<;>omega
 have HE:=ah hE;have HR4:=ah hr;clear hr hE HR3 HX;have xi:(X:Int)<=20000:=by omega
 go_upto_if 99 with fail
 go_cut [7] (fun s7 wx=>s7=.int .i64 E/\w=wx)
 case first=>
  by_cases hm:c=109
  ·have hv:E= -(X:Int):=by rw[<-HE.out];unfold Num.tX;rw[adk hm]
   have HV:=ah hv;have t9:(((s[i]'hlt).toNat:Int) == 109)=true:=by rw[HC.out,hm];rfl
   clear hv hm;go_simp;go_wp2_with fail;go_meet;exact⟨int_eq' HV.symm,rfl⟩
  have hv:E=(X:Int):=by rw[<-HE.out];unfold Num.tX;rw[ade hm]
  have HV:=ah hv
  have t9:(((s[i]'hlt).toNat:Int) == 109)=false:=by
   rw[HC.out,adh];intro e;exact hm (afi.1 (by show c.toNat=109;omega))
  clear hv hm;go_simp;go_wp2_with fail;go_meet;exact⟨int_eq' HV.symm,rfl⟩
 obtain⟨rfl,rfl⟩:=hcut;obtain⟨hE1,hE2⟩:=hEb;clear HC HE
 obtain⟨R,hR⟩:=aj (Num.oD 64 S E);have hr:=HR4.out;rw[hR]at hr;have wF:=ah hr
 have HR:=ah hR;clear hr hR HR4
 go_upto_block 6 with fail
 go_cut [3,7] (fun s3 s7 wx=> ∃(x:Nat) (e:Int),R=(x,e)/\x<=S/\(x=0\/ -1022<=e)/\e<=20000/\ -20000<=e/\s3=.int .u64 (x:Int)/\s7=.int .i64 e/\w=wx)
 case first=>
  go_wp2_with fail
  go_loopg [3,7] 64 (fun g s3 s7 wr=> ∃(x:Nat) (e:Int),Num.oD g x e=R/\x<2 ^ g/\x<=S/\e<=20000/\ -20000<=e/\s3=.int .u64 (x:Int)/\s7=.int .i64 e/\w=wr)
  case atStart=>exact⟨S,E,HR.out,by have:=Bc.out;omega,ac4 _,hE2,hE1,rfl,rfl,rfl⟩
  obtain⟨x,e,hx,hxg,hxs,he1,he2,rfl,rfl,rfl⟩:=hrel;have HXG:=ah hxg;have RP:=ah hxs
  have x0:(0:Int)<=x:=by omega
  clear hxg hxs;by_cases hc:e< -1022/\0<x
  ·obtain⟨h1,h2⟩:=hc
   have t1:decide (e< -1022)=true:=adb h1;have t2:decide (0<x)=true:=adb h2
   have t3:decide ((0:Int)<x)=true:=adb (by omega)
   obtain⟨g,rfl⟩: ∃g,gk=g+1:=by
    cases gk with
    |zero=>have:=HXG.out;rw[Nat.pow_zero]at this;omega
    |succ g=>exact⟨g,rfl⟩
   have hx2:Num.oD g (x / 2) (e+1)=R:=by
    rw[<-hx];simp only[Num.oD];rw[adk ⟨h1,h2⟩]
   have jg:=ah hx2;have xi2:(x:Int)<=9007199254740992:=by have:=RP.out;have:=Bc.out;omega
   clear hx hx2;go_wp2
   go_roundg g
   case measure=>omega
   exact⟨x / 2,e+1,jg.out,by have:=HXG.out;rw[afk]at this;omega,by have:=RP.out;omega,by omega,by omega,int_eq' (by omega),rfl,rfl⟩
  rw[Num.SN hc]at hx;have jg:=ah hx.symm;have hor:x=0\/ -1022<=e:=by omega
  have HOR:=ah hor;by_cases h1:e< -1022
  ·have t1:decide (e< -1022)=true:=adb h1
   obtain rfl:x=0:=by omega
   clear hx hc hor;go_wp2_with fail;go_meet
   exact⟨0,e,jg.out,RP.out,.inl rfl,he1,he2,rfl,rfl,rfl⟩
  have t1:decide (e< -1022)=false:=ac5 h1;clear hx hc hor;go_wp2_with fail;go_meet
  exact⟨x,e,jg.out,RP.out,HOR.out,he1,he2,rfl,rfl,rfl⟩
 obtain⟨x,e,hR,hxs,hor,he1,he2,rfl,rfl,rfl⟩:=hcut
 have hxb:x<9007199254740992:=by have:=Bc.out;omega
 have hr:=wF.out;rw[hR]at hr
 have hv:RES=if x<4503599627370496\/1023<e then x % 4503599627370496 else(e+1022).toNat*4503599627370496+x:=hr
 have x0:(0:Int)<=x:=by omega
 clear hr hR HR wF;by_cases h1:x<4503599627370496
 ·have t1:decide ((x:Int)<4503599627370496)=true:=adb (by omega)
  rw[adk (.inl h1)]at hv;have HV:=ah hv;clear hv h1 hxb hxs hor;go_wp2;go_ret
  exact⟨by rw[HV.out];exact aeH Ending.returned (int_eq' (by omega)),rfl⟩
 have t1:decide ((x:Int)<4503599627370496)=false:=ac5 (by omega)
 by_cases h2:1023<e
 ·have t2:decide (1023<e)=true:=adb h2
  rw[adk (.inr h2)]at hv;have HV:=ah hv;clear hv h1 hxb hxs hor;go_wp2;go_ret
  exact⟨by rw[HV.out];exact aeH Ending.returned (int_eq' (by omega)),rfl⟩
 have t2:decide (1023<e)=false:=ac5 h2;rw[ade (by omega)]at hv
 have HV:=ah hv;have e1:e<=1023:=by omega
 have e2: -1022<=e:=by omega
 have xi:(x:Int)<9007199254740992:=by omega
 clear hv h1 h2 hxb hxs hor;go_wp2;go_ret
 exact⟨by rw[HV.out];exact aeH Ending.returned (int_eq' (by omega)),rfl⟩
theorem alP (t:List UInt8):Num.guess t<18446744073709551616:=by
 unfold Num.guess
 split
 ·omega
 obtain⟨Y,hY⟩:=aj (Num.iq 13 (if t[3]?=some 46 then t.drop 4 else t.drop 3) 1)
 have hb:=Num.SL 13 (if t[3]?=some 46 then t.drop 4 else t.drop 3) 1 2 (by omega)
 rw[hY]at hb⊢;unfold Num.EJ
 split
 ·omega
 rename_i c r _;obtain⟨R,hR⟩:=aj (Num.oD 64 (Y.1*16 ^ Y.2.2) (Num.tX c (Num.mJ 4 r 0)))
 have h2:=Num.YL 64 (Y.1*16 ^ Y.2.2) (Num.tX c (Num.mJ 4 r 0));rw[hR]at h2⊢;have e:=XZ
 unfold Num.CU
 split<;>omega
theorem alQ (s:ByteArray) (w:World) (hs:s.size<=1073741824):
  Calls Tryz.prog 187 #[.string s] w (gQ (Num.yY s.data.toList) w):=by
 by_cases hn:s.data.toList=Num.pO
 ·have t1:(s.toList ==[48,120,110,97,110])=true:=by rw[Lib.toList_data,hn];rfl
  have hp:Num.yY s.data.toList=some 9221120237041090560:=by unfold Num.yY;rw[adk hn]
  rw[hp];clear hp hn;go_enter Tryz.func187,Tryz.ntmps187;go_wp2
  go_ret2
  exact⟨rfl,Below.refl _ _⟩
 have t1:(s.toList ==[48,120,110,97,110])=false:=by rw[Lib.toList_data];exact uU hn
 obtain⟨neg,hneg⟩:=aj (decide (s.data.toList.head?=some 45))
 obtain⟨t,ht⟩:=aj ((if neg=true then s.extract 1 s.size else s):ByteArray)
 obtain⟨G,hG⟩:=aj ((if neg=true then 9223372036854775808 else 0):Nat)
 have htl:t.data.toList=if neg=true then s.data.toList.drop 1 else s.data.toList:=by
  rw[<-ht]
  split
  ·rw[Lib.extract_data]
   exact ado (by rw[aej,<-Lib.size_eq];exact ac4 _)
  rfl
 have hts:t.size<=1073741824:=by
  have h1:=Lib.size_eq s;rw[Lib.size_eq t,htl]
  split
  ·rw[aej];omega
  omega
 have hres:Num.yY s.data.toList=if Num.EK t.data.toList<=9218868437227405312/\Num.fmt (G+Num.EK t.data.toList)=s.data.toList then some (G+Num.EK t.data.toList) else none:=by
  unfold Num.yY;rw[ade hn,htl,<-hG];by_cases hh:s.data.toList.head?=some 45
  ·rw[adb hh]at hneg
   subst hneg;rw[adk hh];rfl
  rw[ac5 hh]at hneg;subst hneg;rw[ade hh];rfl
 obtain⟨r,hr⟩:=aj (Num.yY s.data.toList);rw[hr]at hres⊢
 have hg1:G<=9223372036854775808:=by rw[<-hG];split<;>omega
 have hnp:neg=true->1<=s.size:=by
  intro h;rw[h]at hneg;have h1:=adN hneg;cases hl:s.data.toList with
  |nil=>rw[hl]at h1;cases h1
  |cons c l=>rw[Lib.size_eq,hl];simp
 have HNP:=ah hnp;have kD:=ah hres;have HG:=ah hG;have HT:=ah ht;have EC:=ah hneg
 have qQ:=ah hg1;clear hnp hres hG ht hneg htl hr hn hg1
 go_enter Tryz.func187,Tryz.ntmps187
 go_upto_region 4 with fail
 go_cut [17] (fun Wv wx=>Wv=.bool neg/\w=wx)
 case first=>
  by_cases hpos:0<s.size
  ·have hp:(0:Int)<s.size:=by omega
   have hh:=ahg s hpos;have p1:decide (0<s.size)=true:=adb hpos;by_cases h45:s[0]'hpos=45
   ·have t2:(((s[0]'hpos).toNat:Int) == 45)=true:=by rw[h45];rfl
    have hv:true=neg:=by rw[<-EC.out,hh,h45];rfl
    have HV:=ah hv;clear hh h45 hv;go_wp2_with fail;go_meet;exact⟨by rw[HV.out],rfl⟩
   have t2:(((s[0]'hpos).toNat:Int) == 45)=false:=by
    rw[adh];intro e;exact h45 (afi.1 (by show(s[0]'hpos).toNat=45;omega))
   have hv:false=neg:=by rw[<-EC.out,hh,ac5 (by simpa using h45)]
   have HV:=ah hv;clear hh h45 hv;go_wp2_with fail;go_meet;exact⟨by rw[HV.out],rfl⟩
  have hz:s.size=0:=by omega
  have p1:decide (0<s.size)=false:=ac5 hpos;have p2:(s.size:Int)<=0:=by omega
  have hl:s.data.toList=[]:=adB (by rw[<-Lib.size_eq];exact hz)
  have hv:false=neg:=by rw[<-EC.out,hl];rfl
  have HV:=ah hv;clear hz hl hv;go_wp2_with fail;go_meet;exact⟨by rw[HV.out],rfl⟩
 obtain⟨rfl,rfl⟩:=hcut;clear EC
 go_upto_if 17 with fail
 go_cut [4,5] (fun s4 s5 wx=>s4=.int .u64 (G:Int)/\s5=.string t/\w=wx)
 case first=>
  cases neg with
  |true=>
   have hx:s.extract 1 s.size=t:=by have:=HT.out;rw[adk rfl]at this;exact this
   have hg:G=9223372036854775808:=by have:=HG.out;rw[adk rfl]at this;exact this.symm
   have hsz:1<=s.size:=HNP.out rfl;have X4:=ah hg;clear hg;go_wp2_with fail;go_meet
   exact⟨int_eq' (by have:=X4.out;omega),rfl,rfl⟩
  |false=>
   have hx:s=t:=by have:=HT.out;rw[ade (by decide)]at this;exact this
   have hg:G=0:=by have:=HG.out;rw[ade (by decide)]at this;exact this.symm
   have HX:=ah hx;have X4:=ah hg;clear hg hx;go_wp2_with fail;go_meet
   exact⟨int_eq' (by have:=X4.out;omega),by rw[HX.out],rfl⟩
 obtain⟨rfl,rfl,rfl⟩:=hcut;obtain⟨g0,hg0⟩:=aj (Num.guess t.data.toList)
 have hgs:=fun(W:World)=>alO t W hts
 have hgl:=alP t.data.toList;rw[hg0]at hgs hgl;have HGS:=ah hgs
 obtain⟨B1,hB1⟩:=aj (if t.data.toList=Num.rU then 9218868437227405312 else g0)
 obtain⟨B,hB⟩:=aj (Num.EK t.data.toList)
 have hB2:(if t.data.toList=Num.ZERO then 0 else B1)=B:=by rw[<-hB,<-hB1,<-hg0];rfl
 have hres:=kD.out;rw[hB]at hres;have HR:=ah hres;have HB1:=ah hB1;have HB2:=ah hB2
 have hbl:B<18446744073709551616:=by
  rw[<-hB2,<-hB1]
  split
  ·omega
  split<;>omega
 have vI:=ah hbl;clear hgs hg0 hB1 hB hB2 hres kD hgl hbl HT HG;go_wp2_with fail
 refine(HGS.out _).mono ?_;rintro e w1 ⟨rfl,rfl⟩
 go_upto_if 23 with fail
 go_cut [6] (fun s6 wx=>s6=.int .u64 (B1:Int)/\w=wx)
 case first=>
  by_cases hi:t.data.toList=Num.rU
  ·have t2:(t.toList ==[48,120,105,110,102])=true:=by rw[Lib.toList_data,hi];rfl
   have hv:B1=9218868437227405312:=by rw[<-HB1.out,adk hi]
   have HV:=ah hv;clear hi hv;go_simp;go_wp2_with fail;go_meet
   exact⟨int_eq' (by have:=HV.out;omega),rfl⟩
  have t2:(t.toList ==[48,120,105,110,102])=false:=by rw[Lib.toList_data];exact uU hi
  have hv:B1=g0:=by rw[<-HB1.out,ade hi]
  have HV:=ah hv;clear hi hv;go_simp;go_wp2_with fail;go_meet
  exact⟨int_eq' (by have:=HV.out;omega),rfl⟩
 obtain⟨rfl,rfl⟩:=hcut
 go_upto_if 25 with fail
 go_cut [6] (fun s6 wx=>s6=.int .u64 (B:Int)/\w=wx)
 case first=>
  by_cases hi:t.data.toList=Num.ZERO
  ·have t2:(t.toList ==[48,120,48])=true:=by rw[Lib.toList_data,hi];rfl
   have hv:B=0:=by rw[<-HB2.out,adk hi]
   have HV:=ah hv;clear hi hv;go_simp;go_wp2_with fail;go_meet
   exact⟨int_eq' (by have:=HV.out;omega),rfl⟩
  have t2:(t.toList ==[48,120,48])=false:=by rw[Lib.toList_data];exact uU hi
  have hv:B=B1:=by rw[<-HB2.out,ade hi]
  have HV:=ah hv;clear hi hv;go_simp;go_wp2_with fail;go_meet
  exact⟨int_eq' (by have:=HV.out;omega),rfl⟩
 obtain⟨rfl,rfl⟩:=hcut;clear HGS HB1 HB2;by_cases hle:B<=9218868437227405312
 ·have t3:decide ((B:Int)<=9218868437227405312)=true:=adb (by omega)
  obtain⟨X,hX⟩:=aj (G+B);have hxs:(G:Int)+B=X:=by omega
  have hxb:X<18446744073709551616:=by have:=qQ.out;omega
  have hf:=fun(W:World)=>alH X W hxb
  have hres:=HR.out;rw[hX]at hres;obtain⟨q,hq⟩:=aj (Num.fmt X)
  have IW:q.length<=24:=by rw[<-hq];exact Zy X
  rw[hq]at hf hres;have HF:=ah hf;have HR2:=ah hres
  have xi:(X:Int)<=18446744073709551615:=by omega
  have HXB:=ah hxb;clear hf hres hq hX hxb HR;go_wp2_with fail;refine(HF.out _).mono ?_
  rintro e w1 ⟨rfl,hb⟩;have HB:=ah hb;clear hb;by_cases Jr:q=s.data.toList
  ·have t4:(q == s.toList)=true:=by rw[Lib.toList_data,Jr];simp
   have hr:r=some X:=by rw[HR2.out,adk ⟨hle,Jr⟩]
   have HR3:=ah hr;clear hr Jr HR2 hle;go_wp2
   go_ret2
   exact gQ.some_ HR3.out rfl HB.out
  have t4:(q == s.toList)=false:=by rw[Lib.toList_data];exact uU Jr
  have hr:r=none:=by rw[HR2.out,ade (fun h=>Jr h.2)]
  have HR3:=ah hr;clear hr Jr HR2 hle;go_wp2
  go_ret2
  exact gQ.none_ HR3.out HB.out
 have t3:decide ((B:Int)<=9218868437227405312)=false:=ac5 (by omega)
 have hr:r=none:=by rw[HR.out,ade (fun h=>hle h.1)]
 have HR2:=ah hr;clear hr hle HR;go_wp2
 go_ret2
 exact gQ.none_ HR2.out (Below.refl _ _)
theorem alR: ∀j:Fin 4,(ak.letter ((j.val:Int)+1))=[({data:= #[98,105,102,115]}:ByteArray).data.toList.getD j.val 0]/\ak.letter ((j.val:Int)+5)=ak.letter ((j.val:Int)+1)++[91,93]:=by decide+kernel
theorem acP (j:Fin 4) (w:World):
  Calls Tryz.prog 140 #[.int .i64 ((j.val:Int)+1)] w fun e w'=>e=.returned (.string ⟨(ak.letter ((j.val:Int)+1)).toArray⟩)/\w=w':=by
 match j with
 |0|1|2|3=>
  go_enter Tryz.func140,Tryz.ntmps140;go_wp2;go_ret;exact⟨rfl,rfl⟩
theorem alS (k:Int) (w:World) (hk1:1<=k) (hk8:k<=8):
  Calls Tryz.prog 140 #[.int .i64 k] w fun e w'=>e=.returned (.string ⟨(ak.letter k).toArray⟩)/\w=w':=by
 by_cases h4:k<=4
 ·obtain⟨j,rfl⟩: ∃j:Fin 4,k=(j.val:Int)+1:=⟨⟨(k - 1).toNat,by omega⟩,by simp;omega⟩
  exact acP j w
 obtain⟨j,rfl⟩: ∃j:Fin 4,k=(j.val:Int)+5:=⟨⟨(k - 5).toNat,by omega⟩,by simp;omega⟩
 have hc:=acP j w;have e:=(alR j).2
 match j with
 |0|1|2|3=>
  have HC:=ah hc;clear hc e hk1 hk8 h4;go_enter Tryz.func140,Tryz.ntmps140
  go_wp2_with fail;refine HC.mono ?_;rintro e w1 ⟨rfl,rfl⟩;go_wp2;go_ret;exact⟨rfl,rfl⟩
theorem acQ (k:Int) (s:ByteArray) (w:World) (hk1:1<=k) (hk3:k<=3) (hs:s.size<=1073741824):
  Calls Tryz.prog 141 #[.int .i64 k,.string s] w (ZB (ak.fZ k s.data.toList) w):=by
 obtain⟨R,hR⟩:=aj (ak.fZ k s.data.toList);rw[hR];unfold ak.fZ at hR;by_cases h1:k=1
 ·subst h1
  rw[adk rfl]at hR;by_cases ht:s.data.toList=ak.TRUE
  ·have t1:(s.toList ==[116,114,117,101])=true:=by rw[Lib.toList_data,ht];rfl
   rw[adk ht]at hR;subst hR;clear hs hk1 hk3 ht;go_enter Tryz.func141,Tryz.ntmps141
   go_wp2
   go_ret2
   exact⟨rfl,Below.refl _ _⟩
  have t1:(s.toList ==[116,114,117,101])=false:=by rw[Lib.toList_data];exact adh.2 ht
  rw[ade ht]at hR;by_cases hf:s.data.toList=ak.FALSE
  ·have t2:(s.toList ==[102,97,108,115,101])=true:=by rw[Lib.toList_data,hf];rfl
   rw[adk hf]at hR;subst hR;clear hs hk1 hk3 ht hf;go_enter Tryz.func141,Tryz.ntmps141
   go_wp2
   go_ret2
   exact⟨rfl,Below.refl _ _⟩
  have t2:(s.toList ==[102,97,108,115,101])=false:=by rw[Lib.toList_data];exact adh.2 hf
  rw[ade hf]at hR;subst hR;clear hs hk1 hk3 ht hf;go_enter Tryz.func141,Tryz.ntmps141
  go_wp2
  go_ret2
  exact⟨rfl,Below.refl _ _⟩
 by_cases h2:k=2
 ·subst h2
  rw[ade h1,adk rfl]at hR;have hc:=Zc s w hs;rw[hR]at hc;obtain⟨x,y⟩:=R
  have HC:=ah hc;clear hs hk1 hk3 hc hR h1;go_enter Tryz.func141,Tryz.ntmps141
  go_wp2_with fail;refine HC.mono ?_;rintro e w1 ⟨rfl,hb⟩;have HB:=ah hb;clear hb;go_wp2
  go_ret2
  exact⟨rfl,HB.out⟩
 obtain rfl:k=3:=by omega
 rw[ade (by omega),ade (by omega)]at hR
 have hc:=alQ s w hs;rw[Num.agL]at hc;cases hp:Num.parse s.data.toList with
 |none=>
  rw[hp]at hR hc;subst hR;have hwr:IntKind.i64.wrap 0=0:=by decide
  have hc2:=hc.mono (R:=fun e w'=>e=.returned (.tuple #[.int .u64 0,.int .i64 52])/\Below w.heap.size w w') (fun e w' h=>h)
  have HC:=ah hc2;have hu:=lM;clear hs hk1 hk3 hc hc2 h1 h2 hp
  go_enter Tryz.func141,Tryz.ntmps141;go_wp2_with fail;refine HC.mono ?_
  rintro e w1 ⟨rfl,hb⟩;have HB:=ah hb;clear hb;go_wp2
  go_ret2
  exact⟨rfl,HB.out⟩
 |some b=>
  rw[hp]at hR hc;subst hR;obtain⟨-,hlt,-⟩:=Num.OA hp;have hwr:=Zz hlt
  have hc2:=hc.mono (R:=fun e w'=>e=.returned (.tuple #[.int .u64 b,.int .i64 0])/\Below w.heap.size w w') (fun e w' h=>h)
  have HC:=ah hc2;have hu:=lM;clear hs hk1 hk3 hc hc2 h1 h2 hp hlt
  go_enter Tryz.func141,Tryz.ntmps141;go_wp2_with fail;refine HC.mono ?_
  rintro e w1 ⟨rfl,hb⟩;have HB:=ah hb;clear hb;go_wp2
  go_ret2
  exact⟨rfl,HB.out⟩
end Go.Proofs.YtkdakckjafomhaaGreatDoor
