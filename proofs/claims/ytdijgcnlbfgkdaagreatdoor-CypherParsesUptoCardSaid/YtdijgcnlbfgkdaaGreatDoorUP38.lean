/- Lemmas. -/
import Derived.Test.YtdijgcnlbfgkdaaGreatDoorUP11
import Derived.Test.YtdijgcnlbfgkdaaGreatDoorUP37
set_option maxHeartbeats 64000000
set_option maxRecDepth 1000000
set_option linter.all false
namespace Go.Proofs.YtdijgcnlbfgkdaaGreatDoor
open Go.RowKit Go.Proofs.Tryz
def amT (l:List UInt8) (s:Nat):Num.iW 0 l s=(s,l,0):=by cases l<;>rfl
def amU (k s:Nat):Num.iW k [] s=(s,[],k):=by cases k<;>rfl
def aed (k:Nat) (c:UInt8) (r:List UInt8) (s:Nat) (h:Num.Bh c=true):Num.iW k (c :: r) s=(s,c :: r,k):=by
 cases k with
 |zero=>rfl
 |succ k=>simp only[Num.iW];rw[aeu h]
def amV (k:Nat) (c:UInt8) (r:List UInt8) (s:Nat) (h:Num.Bh c=false):Num.iW (k+1) (c :: r) s=Num.iW k r (s*16+Num.wW c):=by
 simp only[Num.iW];rw[h];simp
def amW (l:List UInt8) (e:Nat):Num.nX 0 l e=e:=by cases l<;>rfl
def amX (k e:Nat):Num.nX k [] e=e:=by cases k<;>rfl
def amY (k:Nat) (c:UInt8) (r:List UInt8) (e:Nat):Num.nX (k+1) (c :: r) e=Num.nX k r (e*10+c.toNat % 16):=rfl
def drop_at {s:ByteArray} {k:Nat} (h:k<s.size):s.data.toList.drop k=s[k] :: s.data.toList.drop (k+1):=by
 have h1:k<s.data.toList.length:=by rw[<-aof];exact h
 rw[afk h1];rfl
def drop_end {s:ByteArray} {k:Nat} (h:s.size<=k):s.data.toList.drop k=[]:=af8 (by rw[<-aof];exact h)
def ZQ:(16:Nat) ^ 13=4503599627370496:=by decide
def amZ (s:ByteArray) (w:World) (hs:s.size<=1073741824):
  Calls prog 210 #[.string s] w fun e w'=>e=.returned (.int .u64 (Num.guess s.data.toList:Nat))/\w=w':=by
 by_cases h5:s.size<5
 ·have hg:Num.guess s.data.toList=0:=by unfold Num.guess;rw[aeu (by rw[<-aof];exact h5)]
  have h5':(s.size:Int)<=4:=by omega
  rw[hg];clear hg;go_enter func210,ntmps210;go_wp2;go_ret;exact⟨rfl,rfl⟩
 have h5':(5:Int)<=s.size:=by omega
 have hlt3:3<s.size:=by omega
 obtain⟨A,hA⟩:=aj (if s.data.toList[3]?=some 46 then 4 else 3)
 have hA1:3<=A/\A<=4:=by rw[<-hA];split<;>omega
 have hg:Num.guess s.data.toList=Num.Fq (Num.iW 13 (s.data.toList.drop A) 1):=by
  unfold Num.guess;rw[aer (by rw[<-aof];exact h5),<-hA]
  split<;>rfl
 obtain⟨RES,OV⟩:=aj (Num.guess s.data.toList);rw[OV]at hg⊢;have jQ:=ah hg;have hget:=ar8 s 3 hlt3;rw[hget]at hA;have HA:=ah hA;clear hA hg hget OV h5;go_enter func210,ntmps210
 go_upto_if 14 with fail
 go_cut [5] (fun s5 wx=>s5=.int .i64 (A:Int)/\w=wx)
 case first=>
  by_cases h46:s[3]'hlt3=46
  ·have t1:(((s[3]'hlt3).toNat:Int) == 46)=true:=by rw[h46];rfl
   have hAv:A=4:=by have:=HA.out;rw[h46,aeu rfl]at this;exact this.symm
   subst hAv;clear HA h46;go_wp2_with fail;go_meet;exact⟨rfl,rfl⟩
  have t1:(((s[3]'hlt3).toNat:Int) == 46)=false:=by
   rw[aek];intro e;exact h46 (afC.1 (by show(s[3]'hlt3).toNat=46;omega))
  have hAv:A=3:=by have:=HA.out;rw[aer (by simpa using h46)]at this;exact this.symm
  subst hAv;clear HA h46;go_wp2_with fail;go_meet;exact⟨rfl,rfl⟩
 obtain⟨rfl,rfl⟩:=hcut;clear HA;obtain⟨hA1,hA2⟩:=hA1;have hA3:A<=s.size:=by omega
 obtain⟨Y,hY⟩:=aj (Num.iW 13 (s.data.toList.drop A) 1);have hres:=jQ.out;rw[hY]at hres;have ZR:=Num.TS 13 (s.data.toList.drop A) 1 2 (by omega)
 rw[hY]at ZR;refine gq3 hY hres ZR fun HY HR HYB=>?_;clear hY hres jQ ZR
 go_upto_block 0 with fail
 go_cut [3,4,5] (fun s3 s4 s5 wx=> ∃(sig k i:Nat),Y=(sig,s.data.toList.drop i,k)/\k<=13/\i<=s.size/\s3=.int .u64 (sig:Int)/\s4=.int .i64 (13 -(k:Int))/\s5=.int .i64 (i:Int)/\w=wx)
 case first=>
  go_wp2_with fail
  go_loopg [3,4,5] 13 (fun g s3 s4 s5 wr=> ∃(sig i:Nat),Num.iW g (s.data.toList.drop i) sig=Y/\g<=13/\i<=s.size/\sig<2*16 ^(13 - g)/\s3=.int .u64 (sig:Int)/\s4=.int .i64 (13 -(g:Int))/\s5=.int .i64 (i:Int)/\w=wr)
  case atStart=>exact⟨1,A,HY.out,by omega,hA3,by decide,rfl,rfl,rfl,rfl⟩
  obtain⟨sig,i,hyy,hg,hi,hsig,rfl,rfl,rfl,rfl⟩:=hrel;have OX:=ah hyy
  have hsb:sig<9007199254740992:=by
   have e1:2*16 ^(13 - gk)<=2*16 ^ 13:=ag6 _ (afT (by decide) (by omega))
   have e2:=ZQ;omega
  have ahk:=ah hsig;clear hyy hsig;have ii:(i:Int)<=1073741824:=by omega
  have gi:(gk:Int)<=13:=by omega
  by_cases hend:s.size<=i
  ·have t1:decide (i<s.size)=false:=dF (by omega)
   have hl:=drop_end hend;have hy2:Y=(sig,s.data.toList.drop i,gk):=by rw[<-OX.out,hl,amU]
   have Ir:=ah hy2;clear hl hy2 hsb;go_wp2_with fail;go_meet;exact⟨sig,gk,i,Ir.out,hg,hi,rfl,rfl,rfl,rfl⟩
  have hlt:i<s.size:=by omega
  have hi3:(i:Int)<s.size:=by omega
  have hdrop:=drop_at hlt;obtain⟨c,hc⟩:=aj (s[i]'hlt);rw[hc]at hdrop;clear hend;by_cases hp:c=112
  ·have t1:(((s[i]'hlt).toNat:Int) !=112)=false:=by rw[hc,hp];rfl
   have hy2:Y=(sig,s.data.toList.drop i,gk):=by rw[<-OX.out,hdrop,aed _ _ _ _ (by rw[hp];rfl)]
   have Ir:=ah hy2;clear hy2 hsb hdrop hc hp;go_wp2_with fail;go_meet;exact⟨sig,gk,i,Ir.out,hg,hi,rfl,rfl,rfl,rfl⟩
  have t1:(((s[i]'hlt).toNat:Int) !=112)=true:=by
   rw[hc,afd];intro e;exact hp (afC.1 (by show c.toNat=112;omega))
  by_cases hm:c=109
  ·have t2:(((s[i]'hlt).toNat:Int) !=109)=false:=by rw[hc,hm];rfl
   have hy2:Y=(sig,s.data.toList.drop i,gk):=by rw[<-OX.out,hdrop,aed _ _ _ _ (by rw[hm];rfl)]
   have Ir:=ah hy2;clear hy2 hsb hdrop hc hm hp;go_wp2_with fail;go_meet;exact⟨sig,gk,i,Ir.out,hg,hi,rfl,rfl,rfl,rfl⟩
  have t2:(((s[i]'hlt).toNat:Int) !=109)=true:=by
   rw[hc,afd];intro e;exact hm (afC.1 (by show c.toNat=109;omega))
  have hpm:Num.Bh c=false:=by simp[Num.Bh,hp,hm]
  cases gk with
  |zero=>
   have hy2:Y=(sig,s.data.toList.drop i,0):=by rw[<-OX.out,amT]
   have Ir:=ah hy2;clear hy2 hsb hdrop hc hm hp hpm;go_wp2_with fail;go_meet;exact⟨sig,0,i,Ir.out,hg,hi,rfl,rfl,rfl,rfl⟩
  |succ g=>
   have ZT:sig<562949953421312:=by
    have h1:=ahk.out;have e1:2*16 ^(13 -(g+1))<=2*16 ^ 12:=ag6 _ (afT (by decide) (by omega))
    have e2:(16:Nat) ^ 12=281474976710656:=by decide
    omega
   have OY: ∀d,d<16->sig*16+d<2*16 ^(13 - g):=by
    intro d hd;have h1:=ahk.out
    have e1:2*16 ^(13 - g)=(2*16 ^(13 -(g+1)))*16:=by
     rw[show 13 - g=(13 -(g+1))+1 by omega,af2,ahm]
    omega
   have si:(sig:Int)<562949953421312:=by omega
   have hy2:Num.iW g (s.data.toList.drop (i+1)) (sig*16+Num.wW c)=Y:=by rw[<-OX.out,hdrop,amV _ _ _ _ hpm]
   obtain⟨P,hP⟩:=aj (13 -((g+1:Nat):Int):Int);rw[hP];have tP:decide (P<13)=true:=aei (by omega)
   have pP:P<=12:=by omega
   have pP0:0<=P:=by omega
   have HP:=ah hP;clear hP gi;have hcv:(c.toNat:Int)<=255:=by have:=an0 c;omega
   by_cases hr:97<=c.toNat/\c.toNat<=102
   ·have hd:Num.wW c=c.toNat - 87:=by unfold Num.wW;rw[aeu hr]
    have t3:decide (97<=((s[i]'hlt).toNat:Int))=true:=by rw[hc];exact aei (by omega)
    have t4:decide (((s[i]'hlt).toNat:Int)<=102)=true:=by rw[hc];exact aei (by omega)
    have b1:(97:Int)<=(s[i]'hlt).toNat:=by rw[hc];omega
    have b2:((s[i]'hlt).toNat:Int)<=102:=by rw[hc];omega
    rw[hd]at hy2;have hN:=OY (c.toNat - 87) (by omega)
    refine gq4 hy2 hN hc hr fun HD HN HC HRR=>?_;clear hy2 hN hd hr OY ZT hsb hdrop hc hm hp hpm hcv;go_wp2
    go_roundg g
    case measure=>omega
    exact⟨sig*16+(c.toNat - 87),i+1,HD.out,by omega,by omega,HN.out,int_eq' (by rw[HC.out];have:=HRR.out;omega),int_eq' (by have:=HP.out;omega),int_eq' (by omega),rfl⟩
   have hd:Num.wW c=c.toNat % 16:=by unfold Num.wW;rw[aer hr]
   rw[hd]at hy2;have hN:=OY (c.toNat % 16) (by omega)
   refine gq3 hy2 hN hc fun HD HN HC=>?_;have b0:((s[i]'hlt).toNat:Int)<=255:=by rw[hc];omega
   have b1:(0:Int)<=(s[i]'hlt).toNat:=by omega
   by_cases h97:c.toNat<97
   ·have t3:decide (97<=((s[i]'hlt).toNat:Int))=false:=by rw[hc];exact dF (by omega)
    clear hy2 hN hd hr OY ZT hsb hdrop hc hm hp hpm hcv h97;go_wp2
    go_roundg g
    case measure=>omega
    exact⟨sig*16+c.toNat % 16,i+1,HD.out,by omega,by omega,HN.out,int_eq' (by rw[HC.out];omega),int_eq' (by have:=HP.out;omega),int_eq' (by omega),rfl⟩
   have t3:decide (97<=((s[i]'hlt).toNat:Int))=true:=by rw[hc];exact aei (by omega)
   have t4:decide (((s[i]'hlt).toNat:Int)<=102)=false:=by rw[hc];exact dF (by omega)
   clear hy2 hN hd hr OY ZT hsb hdrop hc hm hp hpm hcv h97;go_wp2
   go_roundg g
   case measure=>omega
   exact⟨sig*16+c.toNat % 16,i+1,HD.out,by omega,by omega,HN.out,int_eq' (by rw[HC.out];omega),int_eq' (by have:=HP.out;omega),int_eq' (by omega),rfl⟩
 obtain⟨sig,k,i,rfl,hk,hi,rfl,rfl,rfl,rfl⟩:=hcut
 have hyb:sig*16 ^ k<9007199254740992:=by
  have h1:=HYB.out;have e:=ZQ;simp only at h1;omega
 obtain⟨S,hS⟩:=aj (sig*16 ^ k);rw[hS]at hyb;have hr:=HR.out
 have ht:Num.Fq (sig,s.data.toList.drop i,k)=match s.data.toList.drop i with
  |[]=>0
  |c :: r=>Num.Du (Num.qo 64 S (Num.vw c (Num.nX 4 r 0))):=by rw[<-hS];rfl
 rw[ht]at hr;refine gq3 hr hS hyb fun HR2 HS vZ=>?_;clear ht hr HR HY HYB hS hyb
 go_upto_block 2 with fail
 go_cut [3,4] (fun s3 s4 wx=>s3=.int .u64 (S:Int)/\s4=.int .i64 13/\w=wx)
 case first=>
  go_wp2_with fail
  go_loopg [3,4] k (fun g s3 s4 wr=> ∃x:Nat,x*16 ^ g=S/\g<=13/\s3=.int .u64 (x:Int)/\s4=.int .i64 (13 -(g:Int))/\w=wr)
  case atStart=>exact⟨sig,HS.out,hk,rfl,rfl,rfl⟩
  obtain⟨x,hx,hg,rfl,rfl,rfl⟩:=hrel;obtain⟨P,hP⟩:=aj (13 -(gk:Int):Int);rw[hP];have pP:P<=13:=by omega
  have pP0:0<=P:=by omega
  have HP:=ah hP;have HX:=ah hx;cases gk with
  |zero=>
   have tP:decide (P<13)=false:=dF (by omega)
   clear hP hx;go_wp2_with fail;go_meet;exact⟨int_eq' (by have:=HX.out;rw[Nat.pow_zero,Nat.mul_one]at this;omega),int_eq' (by have:=HP.out;omega),rfl⟩
  |succ g=>
   have tP:decide (P<13)=true:=aei (by omega)
   have hx2:x*16<9007199254740992:=by
    have h1:=vZ.out;rw[<-hx,af2,ahe (16 ^ g),<-ahm]at h1;have h2:=apt (x*16) (aoj (n:=g) (show 0<16 by decide))
    omega
   have xi:(x:Int)<562949953421312:=by omega
   have hx3:x*16*16 ^ g=S:=by rw[<-hx,af2,ahe (16 ^ g),<-ahm]
   have rM:=ah hx3;clear hP hx hx2 hx3;go_wp2
   go_roundg g
   case measure=>omega
   exact⟨x*16,rM.out,by omega,int_eq' (by omega),int_eq' (by have:=HP.out;omega),rfl⟩
 obtain⟨rfl,rfl,rfl⟩:=hcut;clear HS;by_cases hend:s.size<=i
 ·have t1:decide (s.size<=i)=true:=aei hend
  have hr:RES=0:=by rw[HR2.out,drop_end hend]
  have HR3:=ah hr;clear hr hend;go_wp2;go_ret;exact⟨by rw[HR3.out];rfl,rfl⟩
 have hlt:i<s.size:=by omega
 have hi3:(i:Int)<s.size:=by omega
 have ii:(i:Int)<=1073741824:=by omega
 have t1:decide (s.size<=i)=false:=dF hend;obtain⟨c,hc⟩:=aj (s[i]'hlt);have hdrop:=drop_at hlt;rw[hc]at hdrop;obtain⟨X,hX⟩:=aj (Num.nX 4 (s.data.toList.drop (i+1)) 0)
 have hxb:X<=20000:=by
  rw[<-hX];have:=Num.aao 4 (s.data.toList.drop (i+1)) 0;omega
 have hr:RES=Num.Du (Num.qo 64 S (Num.vw c X)):=by rw[HR2.out,hdrop,<-hX]
 refine gq3 hX hr hc fun HX HR3 HC=>?_;clear HR2 hr hX hdrop hc hend
 go_upto_block 4 with fail
 go_cut [7,8] (fun s7 s8 wx=>s7=.int .i64 (X:Int)/\w=wx)
 case first=>
  go_wp2_with fail
  go_loopg [7,8] 4 (fun g s7 s8 wr=> ∃(x j:Nat),Num.nX g (s.data.toList.drop j) x=X/\j+g=i+5/\g<=4/\x+2<=2*10 ^(4 - g)/\s7=.int .i64 (x:Int)/\s8=.int .i64 (j:Int)/\w=wr)
  case atStart=>exact⟨0,i+1,HX.out,by omega,by omega,by decide,rfl,int_eq' (by omega),rfl⟩
  obtain⟨x,j,hx,hj,hg,ahl,rfl,rfl,rfl⟩:=hrel
  have xi:(x:Int)<=20000:=by
   have e1:2*10 ^(4 - gk)<=2*10 ^ 4:=ag6 _ (afT (by decide) (by omega))
   omega
  have ji:(j:Int)<=1073741832:=by omega
  refine gq3 hj hx ahl fun HJ wX HXB=>?_;clear hj ahl;by_cases hend:s.size<=j
  ·have t2:decide (j<s.size)=false:=dF (by omega)
   rw[drop_end hend,amX]at hx;have gV:=ah hx;clear hx hend;go_wp2_with fail;go_meet;exact⟨int_eq' (by have:=gV.out;omega),rfl⟩
  have hjlt:j<s.size:=by omega
  have t2:decide (j<s.size)=true:=aei hjlt;cases gk with
  |zero=>
   have t3:decide ((j:Int)<(i:Int)+5)=false:=dF (by have:=HJ.out;omega)
   rw[amW]at hx;have gV:=ah hx;clear hx hend;go_wp2_with fail;go_meet;exact⟨int_eq' (by have:=gV.out;omega),rfl⟩
  |succ g=>
   have t3:decide ((j:Int)<(i:Int)+5)=true:=aei (by have:=HJ.out;omega)
   have ji3:(j:Int)<s.size:=by omega
   obtain⟨d,hd⟩:=aj (s[j]'hjlt);have hdr:=drop_at hjlt;rw[hd]at hdr;rw[hdr,amY]at hx
   have hN:x*10+d.toNat % 16+2<=2*10 ^(4 - g):=by
    have h1:=HXB.out;rw[show 4 - g=(4 -(g+1))+1 by omega,af2,<-ahm]
    omega
   have d1:((s[j]'hjlt).toNat:Int)<=255:=by have:=an0 (s[j]'hjlt);omega
   have d0:(0:Int)<=(s[j]'hjlt).toNat:=by omega
   refine gq3 hx hN hd fun gV HN HD=>?_;clear hx hend hdr hN hd;go_wp2
   go_roundg g
   case measure=>omega
   exact⟨x*10+d.toNat % 16,j+1,gV.out,by have:=HJ.out;omega,by omega,HN.out,int_eq' (by rw[HD.out];omega),int_eq' (by omega),rfl⟩
 obtain⟨rfl,rfl⟩:=hcut;obtain⟨E,hE⟩:=aj (Num.vw c X);have hr:=HR3.out;rw[hE]at hr;have hEb: -20000<=E/\E<=20000:=by rw[<-hE];unfold Num.vw;split<;>omega
 have HE:=ah hE;have HR4:=ah hr;clear hr hE HR3 HX;have xi:(X:Int)<=20000:=by omega
 go_upto_if 99 with fail
 go_cut [7] (fun s7 wx=>s7=.int .i64 E/\w=wx)
 case first=>
  by_cases hm:c=109
  ·have hv:E= -(X:Int):=by rw[<-HE.out];unfold Num.vw;rw[aeu hm]
   have HV:=ah hv;have t9:(((s[i]'hlt).toNat:Int) == 109)=true:=by rw[HC.out,hm];rfl
   clear hv hm;go_simp;go_wp2_with fail;go_meet;exact⟨int_eq' HV.symm,rfl⟩
  have hv:E=(X:Int):=by rw[<-HE.out];unfold Num.vw;rw[aer hm]
  have HV:=ah hv
  have t9:(((s[i]'hlt).toNat:Int) == 109)=false:=by
   rw[HC.out,aek];intro e;exact hm (afC.1 (by show c.toNat=109;omega))
  clear hv hm;go_simp;go_wp2_with fail;go_meet;exact⟨int_eq' HV.symm,rfl⟩
 obtain⟨rfl,rfl⟩:=hcut;obtain⟨hE1,hE2⟩:=hEb;clear HC HE;obtain⟨R,hR⟩:=aj (Num.qo 64 S E);have hr:=HR4.out;rw[hR]at hr;have qV:=ah hr;have HR:=ah hR;clear hr hR HR4
 go_upto_block 6 with fail
 go_cut [3,7] (fun s3 s7 wx=> ∃(x:Nat) (e:Int),R=(x,e)/\x<=S/\(x=0\/ -1022<=e)/\e<=20000/\ -20000<=e/\s3=.int .u64 (x:Int)/\s7=.int .i64 e/\w=wx)
 case first=>
  go_wp2_with fail
  go_loopg [3,7] 64 (fun g s3 s7 wr=> ∃(x:Nat) (e:Int),Num.qo g x e=R/\x<2 ^ g/\x<=S/\e<=20000/\ -20000<=e/\s3=.int .u64 (x:Int)/\s7=.int .i64 e/\w=wr)
  case atStart=>exact⟨S,E,HR.out,by have:=vZ.out;omega,aej _,hE2,hE1,rfl,rfl,rfl⟩
  obtain⟨x,e,hx,hxg,hxs,he1,he2,rfl,rfl,rfl⟩:=hrel;have HXG:=ah hxg;have JI:=ah hxs;have x0:(0:Int)<=x:=by omega
  clear hxg hxs;by_cases hc:e< -1022/\0<x
  ·obtain⟨h1,h2⟩:=hc
   have t1:decide (e< -1022)=true:=aei h1;have t2:decide (0<x)=true:=aei h2;have t3:decide ((0:Int)<x)=true:=aei (by omega)
   obtain⟨g,rfl⟩: ∃g,gk=g+1:=by
    cases gk with
    |zero=>have:=HXG.out;rw[Nat.pow_zero]at this;omega
    |succ g=>exact⟨g,rfl⟩
   have hx2:Num.qo g (x / 2) (e+1)=R:=by
    rw[<-hx];simp only[Num.qo];rw[aeu ⟨h1,h2⟩]
   have gV:=ah hx2;have xi2:(x:Int)<=9007199254740992:=by have:=JI.out;have:=vZ.out;omega
   clear hx hx2;go_wp2
   go_roundg g
   case measure=>omega
   exact⟨x / 2,e+1,gV.out,by have:=HXG.out;rw[af2]at this;omega,by have:=JI.out;omega,by omega,by omega,int_eq' (by omega),rfl,rfl⟩
  rw[Num.TT hc]at hx;have gV:=ah hx.symm;have hor:x=0\/ -1022<=e:=by omega
  have HOR:=ah hor;by_cases h1:e< -1022
  ·have t1:decide (e< -1022)=true:=aei h1
   obtain rfl:x=0:=by omega
   clear hx hc hor;go_wp2_with fail;go_meet;exact⟨0,e,gV.out,JI.out,.inl rfl,he1,he2,rfl,rfl,rfl⟩
  have t1:decide (e< -1022)=false:=dF h1;clear hx hc hor;go_wp2_with fail;go_meet;exact⟨x,e,gV.out,JI.out,HOR.out,he1,he2,rfl,rfl,rfl⟩
 obtain⟨x,e,hR,hxs,hor,he1,he2,rfl,rfl,rfl⟩:=hcut;have hxb:x<9007199254740992:=by have:=vZ.out;omega
 have hr:=qV.out;rw[hR]at hr;have hv:RES=if x<4503599627370496\/1023<e then x % 4503599627370496 else(e+1022).toNat*4503599627370496+x:=hr
 have x0:(0:Int)<=x:=by omega
 clear hr hR HR qV;by_cases h1:x<4503599627370496
 ·have t1:decide ((x:Int)<4503599627370496)=true:=aei (by omega)
  rw[aeu (.inl h1)]at hv;have HV:=ah hv;clear hv h1 hxb hxs hor;go_wp2;go_ret;exact⟨by rw[HV.out];exact afL Ending.returned (int_eq' (by omega)),rfl⟩
 have t1:decide ((x:Int)<4503599627370496)=false:=dF (by omega)
 by_cases h2:1023<e
 ·have t2:decide (1023<e)=true:=aei h2
  rw[aeu (.inr h2)]at hv;have HV:=ah hv;clear hv h1 hxb hxs hor;go_wp2;go_ret;exact⟨by rw[HV.out];exact afL Ending.returned (int_eq' (by omega)),rfl⟩
 have t2:decide (1023<e)=false:=dF h2;rw[aer (by omega)]at hv
 have HV:=ah hv;have e1:e<=1023:=by omega
 have e2: -1022<=e:=by omega
 have xi:(x:Int)<9007199254740992:=by omega
 clear hv h1 h2 hxb hxs hor;go_wp2;go_ret;exact⟨by rw[HV.out];exact afL Ending.returned (int_eq' (by omega)),rfl⟩
def am0 (t:List UInt8):Num.guess t<18446744073709551616:=by
 unfold Num.guess
 split
 ·omega
 obtain⟨Y,hY⟩:=aj (Num.iW 13 (if t[3]?=some 46 then t.drop 4 else t.drop 3) 1)
 have hb:=Num.TS 13 (if t[3]?=some 46 then t.drop 4 else t.drop 3) 1 2 (by omega)
 rw[hY]at hb⊢;unfold Num.Fq
 split
 ·omega
 rename_i c r _;obtain⟨R,hR⟩:=aj (Num.qo 64 (Y.1*16 ^ Y.2.2) (Num.vw c (Num.nX 4 r 0)));have h2:=Num.aap 64 (Y.1*16 ^ Y.2.2) (Num.vw c (Num.nX 4 r 0));rw[hR]at h2⊢;have e:=ZQ;unfold Num.Du
 split<;>omega
def am1 (s:ByteArray) (w:World) (hs:s.size<=1073741824):
  Calls prog 166 #[.string s] w (iE (Num.zN s.data.toList) w):=by
 by_cases hn:s.data.toList=Num.um
 ·have t1:(s.toList ==[48,120,110,97,110])=true:=by rw[aod,hn];rfl
  have hp:Num.zN s.data.toList=some 9221120237041090560:=by unfold Num.zN;rw[aeu hn]
  rw[hp];clear hp hn;go_enter func166,ntmps166;go_wp2
  go_ret2
  exact⟨rfl,aoa _ _⟩
 have t1:(s.toList ==[48,120,110,97,110])=false:=by rw[aod];exact zO hn
 obtain⟨neg,hneg⟩:=aj (decide (s.data.toList.head?=some 45));obtain⟨t,ht⟩:=aj ((if neg=true then s.extract 1 s.size else s):ByteArray)
 obtain⟨G,hG⟩:=aj ((if neg=true then 9223372036854775808 else 0):Nat)
 have htl:t.data.toList=if neg=true then s.data.toList.drop 1 else s.data.toList:=by
  rw[<-ht]
  split
  ·rw[aso]
   exact aeG (by rw[ae1,<-aof];exact aej _)
  rfl
 have hts:t.size<=1073741824:=by
  have h1:=aof s;rw[aof t,htl]
  split
  ·rw[ae1];omega
  omega
 have hres:Num.zN s.data.toList=if Num.Fv t.data.toList<=9218868437227405312/\Num.fmt (G+Num.Fv t.data.toList)=s.data.toList then some (G+Num.Fv t.data.toList) else none:=by
  unfold Num.zN;rw[aer hn,htl,<-hG];by_cases hh:s.data.toList.head?=some 45
  ·rw[aei hh]at hneg
   subst hneg;rw[aeu hh];rfl
  rw[dF hh]at hneg;subst hneg;rw[aer hh];rfl
 obtain⟨r,hr⟩:=aj (Num.zN s.data.toList);rw[hr]at hres⊢;have hg1:G<=9223372036854775808:=by rw[<-hG];split<;>omega
 have hnp:neg=true->1<=s.size:=by
  intro h;rw[h]at hneg;have h1:=aeL hneg;cases hl:s.data.toList with
  |nil=>rw[hl]at h1;cases h1
  |cons c l=>rw[aof,hl];simp
 refine gq6 hnp hres hG ht hneg hg1 fun Yx jQ HG HT Fh dO=>?_;clear hnp hres hG ht hneg htl hr hn hg1;go_enter func166,ntmps166
 go_upto_region 4 with fail
 go_cut [17] (fun Yb wx=>Yb=.bool neg/\w=wx)
 case first=>
  by_cases hpos:0<s.size
  ·have hp:(0:Int)<s.size:=by omega
   have hh:=aie s hpos;have p1:decide (0<s.size)=true:=aei hpos;by_cases h45:s[0]'hpos=45
   ·have t2:(((s[0]'hpos).toNat:Int) == 45)=true:=by rw[h45];rfl
    have hv:true=neg:=by rw[<-Fh.out,hh,h45];rfl
    have HV:=ah hv;clear hh h45 hv;go_wp2_with fail;go_meet;exact⟨by rw[HV.out],rfl⟩
   have t2:(((s[0]'hpos).toNat:Int) == 45)=false:=by
    rw[aek];intro e;exact h45 (afC.1 (by show(s[0]'hpos).toNat=45;omega))
   have hv:false=neg:=by rw[<-Fh.out,hh,dF (by simpa using h45)]
   have HV:=ah hv;clear hh h45 hv;go_wp2_with fail;go_meet;exact⟨by rw[HV.out],rfl⟩
  have hz:s.size=0:=by omega
  have p1:decide (0<s.size)=false:=dF hpos;have p2:(s.size:Int)<=0:=by omega
  have hl:s.data.toList=[]:=aeI (by rw[<-aof];exact hz)
  have hv:false=neg:=by rw[<-Fh.out,hl];rfl
  have HV:=ah hv;clear hz hl hv;go_wp2_with fail;go_meet;exact⟨by rw[HV.out],rfl⟩
 obtain⟨rfl,rfl⟩:=hcut;clear Fh
 go_upto_if 17 with fail
 go_cut [4,5] (fun s4 s5 wx=>s4=.int .u64 (G:Int)/\s5=.string t/\w=wx)
 case first=>
  cases neg with
  |true=>
   have hx:s.extract 1 s.size=t:=by have:=HT.out;rw[aeu rfl]at this;exact this
   have hg:G=9223372036854775808:=by have:=HG.out;rw[aeu rfl]at this;exact this.symm
   have hsz:1<=s.size:=Yx.out rfl;have JY:=ah hg;clear hg;go_wp2_with fail;go_meet;exact⟨int_eq' (by have:=JY.out;omega),rfl,rfl⟩
  |false=>
   have hx:s=t:=by have:=HT.out;rw[aer (by decide)]at this;exact this
   have hg:G=0:=by have:=HG.out;rw[aer (by decide)]at this;exact this.symm
   have HX:=ah hx;have JY:=ah hg;clear hg hx;go_wp2_with fail;go_meet;exact⟨int_eq' (by have:=JY.out;omega),by rw[HX.out],rfl⟩
 obtain⟨rfl,rfl,rfl⟩:=hcut;obtain⟨g0,hg0⟩:=aj (Num.guess t.data.toList);have hgs:=fun(W:World)=>amZ t W hts
 have hgl:=am0 t.data.toList;rw[hg0]at hgs hgl;have HGS:=ah hgs;obtain⟨B1,hB1⟩:=aj (if t.data.toList=Num.xX then 9218868437227405312 else g0)
 obtain⟨B,hB⟩:=aj (Num.Fv t.data.toList);have hB2:(if t.data.toList=Num.ZERO then 0 else B1)=B:=by rw[<-hB,<-hB1,<-hg0];rfl
 have hres:=jQ.out;rw[hB]at hres;refine gq3 hres hB1 hB2 fun HR HB1 HB2=>?_
 have hbl:B<18446744073709551616:=by
  rw[<-hB2,<-hB1]
  split
  ·omega
  split<;>omega
 have OG:=ah hbl;clear hgs hg0 hB1 hB hB2 hres jQ hgl hbl HT HG;go_wp2_with fail;refine iq7 (HGS.out _) ?_
 go_upto_if 23 with fail
 go_cut [6] (fun s6 wx=>s6=.int .u64 (B1:Int)/\w=wx)
 case first=>
  by_cases hi:t.data.toList=Num.xX
  ·have t2:(t.toList ==[48,120,105,110,102])=true:=by rw[aod,hi];rfl
   have hv:B1=9218868437227405312:=by rw[<-HB1.out,aeu hi]
   have HV:=ah hv;clear hi hv;go_simp;go_wp2_with fail;go_meet;exact⟨int_eq' (by have:=HV.out;omega),rfl⟩
  have t2:(t.toList ==[48,120,105,110,102])=false:=by rw[aod];exact zO hi
  have hv:B1=g0:=by rw[<-HB1.out,aer hi]
  have HV:=ah hv;clear hi hv;go_simp;go_wp2_with fail;go_meet;exact⟨int_eq' (by have:=HV.out;omega),rfl⟩
 obtain⟨rfl,rfl⟩:=hcut
 go_upto_if 25 with fail
 go_cut [6] (fun s6 wx=>s6=.int .u64 (B:Int)/\w=wx)
 case first=>
  by_cases hi:t.data.toList=Num.ZERO
  ·have t2:(t.toList ==[48,120,48])=true:=by rw[aod,hi];rfl
   have hv:B=0:=by rw[<-HB2.out,aeu hi]
   have HV:=ah hv;clear hi hv;go_simp;go_wp2_with fail;go_meet;exact⟨int_eq' (by have:=HV.out;omega),rfl⟩
  have t2:(t.toList ==[48,120,48])=false:=by rw[aod];exact zO hi
  have hv:B=B1:=by rw[<-HB2.out,aer hi]
  have HV:=ah hv;clear hi hv;go_simp;go_wp2_with fail;go_meet;exact⟨int_eq' (by have:=HV.out;omega),rfl⟩
 obtain⟨rfl,rfl⟩:=hcut;clear HGS HB1 HB2;by_cases hle:B<=9218868437227405312
 ·have t3:decide ((B:Int)<=9218868437227405312)=true:=aei (by omega)
  obtain⟨X,hX⟩:=aj (G+B);have hxs:(G:Int)+B=X:=by omega
  have hxb:X<18446744073709551616:=by have:=dO.out;omega
  have hf:=fun(W:World)=>amS X W hxb
  have hres:=HR.out;rw[hX]at hres;obtain⟨q,hq⟩:=aj (Num.fmt X);have Ej:q.length<=24:=by rw[<-hq];exact ajf X
  rw[hq]at hf hres;have HF:=ah hf;have HR2:=ah hres;have xi:(X:Int)<=18446744073709551615:=by omega
  have HXB:=ah hxb;clear hf hres hq hX hxb HR;go_wp2_with fail;refine mq7 (HF.out _) fun w1 hb=>?_;have HB:=ah hb;clear hb;by_cases Kv:q=s.data.toList
  ·have t4:(q == s.toList)=true:=by rw[aod,Kv];simp
   have hr:r=some X:=by rw[HR2.out,aeu ⟨hle,Kv⟩]
   have HR3:=ah hr;clear hr Kv HR2 hle;go_wp2
   go_ret2
   exact iE.some_ HR3.out rfl HB.out
  have t4:(q == s.toList)=false:=by rw[aod];exact zO Kv
  have hr:r=none:=by rw[HR2.out,aer (fun h=>Kv h.2)]
  have HR3:=ah hr;clear hr Kv HR2 hle;go_wp2
  go_ret2
  exact iE.none_ HR3.out HB.out
 have t3:decide ((B:Int)<=9218868437227405312)=false:=dF (by omega)
 have hr:r=none:=by rw[HR.out,aer (fun h=>hle h.1)]
 have HR2:=ah hr;clear hr hle HR;go_wp2
 go_ret2
 exact iE.none_ HR2.out (aoa _ _)
def aee (w:World):ak (w.alloc (.cells #[.int .i64 0,.string ⟨#[]⟩,.int .i64 0,.int .i64 0] 94)) w.heap.size 94 #[.int .i64 0,.string ⟨#[]⟩,.int .i64 0,.int .i64 0]:=ak.new _ _ _
def am2 {l:List UInt8} (h:Lib.hasPrefix l [48,120]=true):2<=l.length:=by
 unfold Lib.hasPrefix at h;rw[aos]at h;exact h.length_le
def am3 (l:List UInt8):Lib.hasPrefix l [48,120]=(l.take 2 ==[48,120]):=by
 match l with
 |[]=>rfl
 |[a]=>simp[Lib.hasPrefix,List.isPrefixOf]
 |a :: b :: r=>simp[Lib.hasPrefix,List.isPrefixOf,Bool.beq_comm]
def am4 (s:ByteArray) (i n:Nat) (w:World) (hs:s.size<=1073741824) (hi:i+(1+n)<=s.size):
  Calls prog 110 #[.string s,.int .i64 i,.int .i64 ((i+(1+n):Nat):Int)] w (Je (Lex.nY ((s.data.toList.drop i).take (1+n))) i w):=by
 obtain⟨z,hz⟩:=aj (s.extract i (i+(1+n)));have hzl:z.data.toList=(s.data.toList.drop i).take (1+n):=by rw[<-hz,DC]
 have LP:z.data.toList.length=1+n:=by rw[hzl,afo,ae1,<-aof];omega
 rw[<-hzl];have asD:z.size=1+n:=by rw[aof,LP]
 have hz0:0<z.size:=by omega
 obtain⟨j,hj⟩:=aj (i+(1+n));rw[hj]at hz⊢;have hjs:j<=s.size:=by omega
 have hij:i<=j:=by omega
 have ji:(j:Int)<=1073741824:=by omega
 have ii:(i:Int)<=1073741824:=by omega
 have hzs:z.size<=1073741824:=by omega
 have hzj:i+z.data.toList.length=j:=by omega
 have asE:(0:Int)<z.size:=by omega
 have hpf:=fun(W:World)=>am1 z W hzs
 have hpi:=fun(W:World)=>aaF z W hzs
 rw[Num.ahX]at hpf;have hd0:z.data.toList=z[0]'hz0 :: z.data.toList.drop 1:=by have:=jm hz0;rwa [afW]at this
 obtain⟨f,hf⟩:=aj ((if z[0]'hz0=45 then 1 else 0):Nat)
 have hnh:Lex.Dv z.data.toList=z.data.toList.drop f:=by
  unfold Lex.Dv;rw[<-hf];by_cases h:z[0]'hz0=45
  ·rw[aeu h,aeu (by rw[hd0,h];rfl)]
  rw[aer h,aer (by rw[hd0];simpa using h),afW]
 have hf1:f<=1:=by rw[<-hf];split<;>omega
 obtain⟨v,hv⟩:=aj (Lib.hasPrefix (Lex.Dv z.data.toList) [48,120]);have hv2:=hv;rw[hnh]at hv2;obtain⟨zn,hzn⟩:=aj z.data.toList.length;rw[hzn]at hzj;obtain⟨W1,hW1⟩:=aj (w.alloc (.cells #[.int .i64 0,.string ⟨#[]⟩,.int .i64 0,.int .i64 0] 94));have hbase:Below w.heap.size w W1:=by rw[<-hW1];exact(aoa _ _).alloc (aej _) _
 have hblk:ak W1 w.heap.size 94 #[.int .i64 0,.string ⟨#[]⟩,.int .i64 0,.int .i64 0]:=by rw[<-hW1];exact aee w
 obtain⟨R,hR⟩:=aj (Lex.nY z.data.toList);rw[hR];have jQ:=ah hR;clear hR;refine gq9 hpf hpi hf hv2 hzj hbase hblk hW1 hv fun jy rP HF ZU LQ gy lN HW1 HV=>?_;have jA:=ah hzn;clear hpf hpi hf hnh hv hv2 hzj hd0 LP hzl hj hbase hblk hW1 hzn;go_enter func110,ntmps110
 go_upto_if 21 with fail
 go_cut [10] (fun s10 wx=>s10=.int .i64 (f:Int)/\W1=wx)
 case first=>
  by_cases h45:z[0]'hz0=45
  ·have t1:(((z[0]'hz0).toNat:Int) == 45)=true:=by rw[h45];rfl
   have hf0:f=1:=by rw[<-HF.out,aeu h45]
   subst hf0;clear h45 HF;go_wp2_with fail;go_meet;exact⟨rfl,HW1.symm⟩
  have t1:(((z[0]'hz0).toNat:Int) == 45)=false:=bq (k:=45) rfl (aek.2 h45);have hf0:f=0:=by rw[<-HF.out,aer h45]
  subst hf0;clear h45 HF;go_wp2_with fail;go_meet;exact⟨rfl,HW1.symm⟩
 obtain⟨rfl,rfl⟩:=hcut;clear HF
 go_upto_region 5 with fail
 go_cut [34] (fun s34 wx=>s34=.bool v/\W1=wx)
 case first=>
  by_cases h2:2+f<=z.size
  ·have t1:decide (2<=(z.size:Int) - f)=true:=aei (by omega)
   have t2:(2:Int)<=(z.size:Int) - f:=by omega
   have f2:(f:Int)+2<=z.size:=by omega
   have f1:(f:Int)<=1:=by omega
   obtain⟨y,hy⟩:=aj (z.extract f (f+2))
   have wY:(y.toList ==[48,120])=v:=by
    rw[aod,<-hy,DC,<-am3];exact ZU.out
   clear h2 jy rP HV;go_wp2_with fail;go_meet;exact⟨rfl,rfl⟩
  have t1:decide (2<=(z.size:Int) - f)=false:=dF (by omega)
  have t2:(z.size:Int) - f<2:=by omega
  have f1:(f:Int)<=1:=by omega
  have hv0:v=false:=by
   rw[<-ZU.out,apA];intro h;have:=am2 h;rw[ae1,<-aof]at this;omega
  subst hv0;clear h2 jy rP HV;go_wp2_with fail;go_meet;exact⟨rfl,rfl⟩
 obtain⟨rfl,rfl⟩:=hcut;clear ZU HW1;have hv:=HV.out;cases v with
 |true=>
  have hnt:Lex.nY z.data.toList=match Num.parse z.data.toList with|some b=> .tok 3 [] (Lex.int64 b) z.data.toList.length|none=> .err 0 52:=by
   unfold Lex.nY;rw[aeu hv];cases Num.parse z.data.toList<;>rfl
  have hr:=jQ.out;rw[hnt,jA.out]at hr;clear hv hnt HV rP;cases hp:Num.parse z.data.toList with
  |some b=>
   have hwr:=aa1 b (aa2 hp);have hcall:=jy.out;rw[hp]at hcall;have HC:=ah (show∀W:World,Calls prog 166 #[.string z] W fun e w'=>e=.returned (.tuple #[.int .u64 (b:Nat),.int .i64 0])/\Below W.heap.size W w' from hcall)
   obtain⟨q,hq⟩:=aj (Lex.int64 b);rw[hq]at hwr;rw[hp]at hr
   have ht:kH R i=.tuple #[.agg #[.int .i64 3,.string ⟨#[]⟩,.int .i64 q,.int .i64 i],.int .i64 j,.int .i64 0]:=by
    rw[<-hr];simp only[kH,LQ.out,hq];rfl
   have HT:=ah ht;clear hcall hp hq jy ht hr;go_wp2_with fail;refine mq7 (HC.out _) fun w1 hb=>?_;have HB:=ah (gy.trans (hb.mono gy.size));have HK:=ah (lN.below hb lN.lt);obtain⟨b0,b1,b2,b3,f0,f1,f2,f3⟩:=vO HK.out;clear hb;go_wp2;exact qI results110 rfl rfl rfl HK.out HB.out HT.out
  |none=>
   have hcall:=jy.out;rw[hp]at hcall;have HC:=ah (show∀W:World,Calls prog 166 #[.string z] W fun e w'=>e=.returned (.tuple #[.int .u64 0,.int .i64 52])/\Below W.heap.size W w' from hcall)
   rw[hp]at hr
   have ht:kH R i=.tuple #[.agg #[.int .i64 0,.string ⟨#[]⟩,.int .i64 0,.int .i64 i],.int .i64 0,.int .i64 52]:=by
    rw[<-hr];simp only[kH,agw];rfl
   have HT:=ah ht;clear hcall hp jy ht hr;go_wp2_with fail;refine mq7 (HC.out _) fun w1 hb=>?_;have HB:=ah (gy.trans (hb.mono gy.size));have HK:=ah (lN.below hb lN.lt);obtain⟨b0,b1,b2,b3,f0,f1,f2,f3⟩:=vO HK.out;clear hb;go_wp2;exact qI results110 rfl rfl rfl HK.out HB.out HT.out
 |false=>
  have hnt:Lex.nY z.data.toList=if(Num.dM z.data.toList).2=0 then .tok 2 [] (Num.dM z.data.toList).1 z.data.toList.length else .err 0 (Num.dM z.data.toList).2:=by
   unfold Lex.nY;rw[aer (by rw[hv];decide)]
  have hr:=jQ.out;rw[hnt,jA.out]at hr;clear hv hnt HV jy;obtain⟨x,hx⟩:=aj (Num.dM z.data.toList);have hcall:=rP.out;rw[hx]at hcall hr;obtain⟨q,k⟩:=x;have HC:=ah (show∀W:World,Calls prog 114 #[.string z] W fun e w'=>e=.returned (.tuple #[.int .i64 q,.int .i64 (k:Int)])/\Below W.heap.size W w' from hcall)
  by_cases hk:k=0
  ·subst hk
   have ht:kH R i=.tuple #[.agg #[.int .i64 2,.string ⟨#[]⟩,.int .i64 q,.int .i64 i],.int .i64 j,.int .i64 0]:=by
    rw[<-hr,aeu rfl];simp only[kH,LQ.out];rfl
   have HT:=ah ht;clear hcall hx rP ht hr;go_wp2_with fail;refine mq7 (HC.out _) fun w1 hb=>?_;have HB:=ah (gy.trans (hb.mono gy.size));have HK:=ah (lN.below hb lN.lt);obtain⟨b0,b1,b2,b3,f0,f1,f2,f3⟩:=vO HK.out;clear hb;go_wp2;exact qI results110 rfl rfl rfl HK.out HB.out HT.out
  have hkb:((k:Int) !=0)=true:=by rw[afd];omega
  have ht:kH R i=.tuple #[.agg #[.int .i64 0,.string ⟨#[]⟩,.int .i64 0,.int .i64 i],.int .i64 0,.int .i64 (k:Int)]:=by
   rw[<-hr,aer hk];simp only[kH,agw]
  have HT:=ah ht;clear hcall hx rP ht hr hk;go_wp2_with fail;refine mq7 (HC.out _) fun w1 hb=>?_;have HB:=ah (gy.trans (hb.mono gy.size));have HK:=ah (lN.below hb lN.lt);obtain⟨b0,b1,b2,b3,f0,f1,f2,f3⟩:=vO HK.out;clear hb;go_wp2;exact qI results110 rfl rfl rfl HK.out HB.out HT.out
end Go.Proofs.YtdijgcnlbfgkdaaGreatDoor
