/- Lemmas. -/
import Derived.Test.YtdijgcnlbfgkdaaGreatDoorUP36
import Derived.Test.YtdijgcnlbfgkdaaGreatDoorUP38
set_option maxHeartbeats 64000000
set_option maxRecDepth 1000000
set_option linter.all false
namespace Go.Proofs.YtdijgcnlbfgkdaaGreatDoor
open Go.RowKit Go.Proofs.Tryz
namespace Lex
def am5 {c:UInt8} {r:L} {m d a:Bool} (bQ:c≠39) (hlet:isLet c=false) (hm:(decide (c=45) && !r.isEmpty)=m) (hd:(Num.aJ c ||(m && Num.aJ (behind r)))=d) (ha:(m &&(behind r == 62))=a):
  tok1 (c :: r)=if d=true then nY ((c :: r).take (1+run iY r)) else if a=true then .tok 5 [45,62] 0 2 else if c∈MARKS then .tok 5 [c] 0 1 else .err 0 240:=by
 simp only[tok1];rw[aer bQ,aer (by rw[hlet];decide)]
 cases r with
 |nil=>
  simp at hm;subst hm;simp at hd ha;subst hd ha;simp
 |cons b t=>
  simp at hm;subst hm;have hb:behind (b :: t)=b:=rfl;rw[hb]at hd ha;subst hd ha;by_cases h1:Num.aJ c=true
  ·simp[h1]
  by_cases h2:c=45
  ·subst h2
   simp at h1;by_cases h3:Num.aJ b=true
   ·simp[h3]
   simp[h3]
  simp[h1,h2]
def mk (j:Nat):UInt8:=MARKS.getD j 0
end Lex
def am6: ∀j:Fin 10,(({data:= #[40,41,123,125,91,93,58,44,59,45]}:ByteArray).data.toList)[j.val]?=some (Lex.mk j.val):=by decide+kernel
def am7 (j:Nat) (h:j<10) (h':j<({data:= #[40,41,123,125,91,93,58,44,59,45]}:ByteArray).size):({data:= #[40,41,123,125,91,93,58,44,59,45]}:ByteArray)[j]'h'=Lex.mk j:=by
 have e:=am6 ⟨j,h⟩;have e2:=aiQ (s:={data:= #[40,41,123,125,91,93,58,44,59,45]}) h';rw[e2]at e;exact aeM e
def am8: ∀j:Fin 10,(({data:= #[40,41,123,125,91,93,58,44,59,45]}:ByteArray).extract j.val (j.val+1)).data.toList=[Lex.mk j.val]:=by decide+kernel
def am9 (j:Nat) (h:j<10):({data:= #[40,41,123,125,91,93,58,44,59,45]}:ByteArray).extract j (j+1)=⟨#[Lex.mk j]⟩:=by
 have e:=am8 ⟨j,h⟩;simp only at e;have:=afL List.toArray e;simp only[Array.toArray_toList]at this
 apply aho
 exact this
def ana {c:UInt8} (h:c∈Lex.MARKS): ∃j,j<10/\Lex.mk j=c:=by
 obtain⟨j,hj,e⟩:=agM h;refine⟨j,hj, ?_⟩;rw[<-e];unfold Lex.mk;rw[agP,aen hj];rfl
def anb {j:Nat} (h:j<10):Lex.mk j∈Lex.MARKS:=by
 have: ∀j:Fin 10,Lex.mk j.val∈Lex.MARKS:=by decide
 exact this ⟨j,h⟩
def aef (R:Lex.iG) (i:Nat): ∃(v0:Int) (v1:ByteArray) (v2 v3 v4 v5:Int),kH R i=.tuple #[.agg #[.int .i64 v0,.string v1,.int .i64 v2,.int .i64 v3],.int .i64 v4,.int .i64 v5]:=by
 cases R<;>exact⟨_,_,_,_,_,_,rfl⟩
def anc {s:ByteArray} (k:Nat):(!(s.data.toList.drop k).isEmpty)=decide (k<s.size):=by
 by_cases h:k<s.size
 ·rw[jm h,aei h];rfl
 rw[sO (by omega),dF h];rfl
def aeg {s:ByteArray} {k:Nat} (h:k<s.size):Lex.behind (s.data.toList.drop k)=s[k]'h:=by rw[jm h];rfl
def ane (s:ByteArray) (i:Nat) (w:World) (hs:s.size<=1073741823) (hi:i<s.size):
  Calls prog 57 #[.string s,.int .i64 i] w (Je (Lex.tok1 (s.data.toList.drop i)) i w):=by
 obtain⟨R,hR⟩:=aj (Lex.tok1 (s.data.toList.drop i));rw[hR];have hR0:=hR;rw[jm hi]at hR;obtain⟨c,hc⟩:=aj (s[i]'hi);rw[hc]at hR;have hii:(i:Int)<s.size:=by omega
 have hsi:(s.size:Int)<=1073741823:=by omega
 obtain⟨W1,hW1⟩:=aj (w.alloc (.cells #[.int .i64 0,.string ⟨#[]⟩,.int .i64 0,.int .i64 0] 94));have hbase:Below w.heap.size w W1:=by rw[<-hW1];exact(aoa _ _).alloc (aej _) _
 have hblk:ak W1 w.heap.size 94 #[.int .i64 0,.string ⟨#[]⟩,.int .i64 0,.int .i64 0]:=by rw[<-hW1];exact aee w
 refine gq4 hbase hblk hW1 hR fun gy lN HW1 HR=>?_;have hlet:=fun(x:UInt8) (W:World)=>amK x W
 have hdig:=fun(x:UInt8) (W:World)=>aeb x W
 have Tq:=ah hlet;have xq:=ah hdig;have hrun:=Lex.Dw Lex.dh (s.data.toList.drop i);rw[ae1,<-aof]at hrun;have Tt:=ah hrun;clear hR0 hR hbase hblk hW1 hlet hdig hrun;go_enter func57,ntmps57;by_cases bQ:c=39
 ·subst bQ
  have t1:(((39:UInt8).toNat:Int) == 39)=true:=by rfl
  have hcall:=fun(W:World)=>amN s i W hs hi
  have hr:=HR.out;rw[Lex.abJ,ae1,<-aof,show s.size -(i+1)+1=s.size - i by omega]at hr
  rw[hr]at hcall;obtain⟨v0,v1,v2,v3,v4,v5,hv⟩:=aef R i;unfold Je at hcall;rw[hv]at hcall;have HC:=ah hcall;have HV:=ah hv;clear hcall hr hv HR Tt Tq xq;go_wp2_with fail;rw[HW1.out];refine mq7 (HC.out _) fun w1 hb=>?_;have HB:=ah (gy.trans (hb.mono gy.size));have HK:=ah (lN.below hb lN.lt);obtain⟨b0,b1,b2,b3,f0,f1,f2,f3⟩:=vO HK.out;clear hb;go_wp2;exact qI results57 rfl rfl rfl HK.out HB.out HV.out
 have t1:((c.toNat:Int) == 39)=false:=bq (k:=39) rfl (aek.2 bQ);obtain⟨lt,hlt⟩:=aj (Lex.isLet c);have hl0:=fun(W:World)=>Tq.out c W
 rw[hlt]at hl0;have Tv:=ah hl0;clear hl0;cases lt with
 |true=>
  obtain⟨n,hn⟩:=aj (Lex.run Lex.dh (s.data.toList.drop i));have hr:=HR.out;rw[Lex.abI _ hlt,<-hc,<-jm hi,hn]at hr;have hnl:=Tt.out;rw[hn]at hnl;obtain⟨z,hz⟩:=aj (s.extract i (i+n));have hzl:(⟨((s.data.toList.drop i).take n).toArray⟩:ByteArray)=z:=by rw[<-hz,<-DC]
  obtain⟨j,hj⟩:=aj (i+n)
  have ht:kH R i=.tuple #[.agg #[.int .i64 1,.string z,.int .i64 0,.int .i64 i],.int .i64 j,.int .i64 0]:=by
   rw[<-hr];simp only[kH];rw[hzl,hj];rfl
  rw[hj]at hz;have hrn:i+Lex.run Lex.dh (s.data.toList.drop i)=j:=by rw[hn,hj]
  have hij:i<=j:=by omega
  have hjs:j<=s.size:=by omega
  have oH:(j:Int)<=s.size:=by omega
  have aoJ:(i:Int)<=j:=by omega
  have HT:=ah ht;have fH:=ah hrn;clear hr hn hnl hzl hj ht hrn bQ hlt HR Tt;go_wp2_with fail;refine iq7 (Tv.out _) ?_;rw[HW1.out];clear HW1 Tv;have hc0:=hc;have yL:=ah hc0;clear hc hc0 t1;go_wp2_with fail
  go_loopg [8] (s.size - i) (fun g x wx=> ∃k:Nat,x=.int .i64 k/\i<=k/\k<=s.size/\s.size - k<=g/\k+Lex.run Lex.dh (s.data.toList.drop k)=j/\W1=wx)
  case atStart=>exact⟨i,rfl,aej _,by omega,by omega,fH.out,rfl⟩
  obtain⟨k,rfl,hik,hks,hm,hrk,rfl⟩:=hrel;have wZ:=ah hrk;obtain⟨b0,b1,b2,b3,f0,f1,f2,f3⟩:=vO lN.out;have fQ:(k:Int)<=s.size:=by omega
  clear hrk fH;by_cases hkl:k<s.size
  ·have aqs:(k:Int)<s.size:=by omega
   have u1:decide (k<s.size)=true:=aei hkl;obtain⟨x,hx⟩:=aj (s[k]'hkl);have hlx:=fun(W:World)=>Tq.out x W
   have kY:=fun(W:World)=>xq.out x W
   have hrk:=wZ.out;rw[jm hkl,hx,Lex.IC]at hrk;simp only at hrk;unfold Lex.dh at hrk;cases hb1:Lex.isLet x with
   |true=>
    rw[hb1]at hlx hrk;rw[apE,aeu rfl]at hrk;have jS:=ah hlx;have HN:=ah (show k+1+Lex.run Lex.dh (s.data.toList.drop (k+1))=j by unfold Lex.dh;omega)
    clear hlx kY hrk hb1 b0 b1 b2 b3 f0 f1 f2 f3;cases gk with
    |zero=>omega
    |succ g=>
     go_wp2_with fail;refine iq7 (jS.out _) ?_;go_wp2
     go_roundg g
     case measure=>omega
     exact⟨k+1,int_eq' (by omega),by omega,by omega,by omega,HN.out,rfl⟩
   |false=>
    rw[hb1]at hlx hrk;rw[aoQ]at hrk;cases hb2:Num.aJ x with
    |true=>
     rw[hb2]at kY hrk;rw[aeu rfl]at hrk;have jS:=ah hlx;have Fj:=ah kY;have HN:=ah (show k+1+Lex.run Lex.dh (s.data.toList.drop (k+1))=j by unfold Lex.dh;omega)
     clear hlx kY hrk hb1 hb2 b0 b1 b2 b3 f0 f1 f2 f3;cases gk with
     |zero=>omega
     |succ g=>
      go_wp2_with fail;refine iq7 (jS.out _) ?_;go_wp2_with fail;refine iq7 (Fj.out _) ?_;go_wp2
      go_roundg g
      case measure=>omega
      exact⟨k+1,int_eq' (by omega),by omega,by omega,by omega,HN.out,rfl⟩
    |false=>
     rw[hb2]at kY hrk;rw[aer (by decide)]at hrk
     have jS:=ah hlx;have Fj:=ah kY;obtain rfl:k=j:=by omega
     clear hlx kY hrk hb1 hb2;go_wp2_with fail;refine iq7 (jS.out _) ?_;go_wp2_with fail;refine iq7 (Fj.out _) ?_;go_wp2;exact qI results57 rfl rfl rfl lN.out gy.out HT.out
  have u1:decide (k<s.size)=false:=dF hkl;have hke:k=s.size:=by omega
  have hrk:=wZ.out;rw[sO (by omega)]at hrk
  obtain rfl:k=j:=hrk;subst hke;go_wp2;exact qI results57 rfl rfl rfl lN.out gy.out HT.out
 |false=>
  obtain⟨m,hm⟩:=aj (decide (c=45) && !(s.data.toList.drop (i+1)).isEmpty);obtain⟨bh,Jm⟩:=aj (Lex.behind (s.data.toList.drop (i+1)));obtain⟨d,hd⟩:=aj (Num.aJ c ||(m && Num.aJ (Lex.behind (s.data.toList.drop (i+1)))))
  obtain⟨a,ha⟩:=aj (m &&(Lex.behind (s.data.toList.drop (i+1)) == 62));have hr:=HR.out;rw[Lex.am5 bQ hlt hm hd ha]at hr;rw[anc]at hm;rw[Jm]at hd ha;refine gq5 hr hm Jm hd ha fun HR2 HM rW HD HA=>?_;clear hr hm Jm hd ha hlt bQ HR Tt;go_wp2_with fail;refine iq7 (Tv.out _) ?_;rw[HW1.out];clear HW1 Tv t1
  go_upto_region 9 with fail
  go_cut [9] (fun s9 wx=>s9=.bool m/\W1=wx)
  case first=>
   have hm:=HM.out;by_cases h45:c=45
   ·have t2:((c.toNat:Int) == 45)=true:=by rw[h45];rfl
    rw[aei h45,aq1]at hm;have u1:decide ((i:Int)+1<s.size)=m:=by rw[<-hm];exact decide_eq_decide.2 (by omega)
    have yL:=ah hc;clear hm h45 hc HM;go_wp2_with fail;go_meet;exact⟨rfl,rfl⟩
   have t2:((c.toNat:Int) == 45)=false:=bq (k:=45) rfl (aek.2 h45);rw[dF h45,arQ]at hm;subst hm;have yL:=ah hc;clear h45 hc HM;go_wp2_with fail;go_meet;exact⟨rfl,rfl⟩
  obtain⟨rfl,rfl⟩:=hcut
  go_upto_region 10 with fail
  go_cut [72] (fun s72 wx=>s72=.bool d/\W1=wx)
  case first=>
   have hdc:=fun(W:World)=>xq.out c W
   have hd:=HD.out;cases h1:Num.aJ c with
   |true=>
    rw[h1]at hdc hd;rw[apE]at hd;subst hd;have Tz:=ah hdc;clear hdc h1 HD;go_wp2_with fail;refine iq7 (Tz.out _) ?_;go_wp2_with fail;go_meet;exact⟨rfl,rfl⟩
   |false=>
    rw[h1]at hdc hd;rw[aoQ]at hd;have Tz:=ah hdc;clear hdc h1 HD;cases m with
    |false=>
     rw[arQ]at hd;subst hd;go_wp2_with fail;refine iq7 (Tz.out _) ?_;go_wp2_with fail;go_meet;exact⟨rfl,rfl⟩
    |true=>
     rw[aq1]at hd;have hm:=HM.out;rw[afx,aeU,aeU]at hm;have hi1:=hm.2;have aqt:(i:Int)+1<s.size:=by omega
     have hbb:s[i+1]'hi1=bh:=by rw[<-rW.out,aeg hi1]
     have hdb:=fun(W:World)=>xq.out bh W
     rw[hd]at hdb;have En:=ah hdb;clear hd hm hdb;go_wp2_with fail;refine iq7 (Tz.out _) ?_;go_wp2_with fail;refine iq7 (En.out _) ?_;go_wp2_with fail;go_meet;exact⟨rfl,rfl⟩
  obtain⟨rfl,rfl⟩:=hcut;clear HD;cases d with
  |true=>
   have hr:=HR2.out;rw[aeu rfl,<-hc,<-jm hi]at hr;obtain⟨n,hn⟩:=aj (Lex.run Lex.iY (s.data.toList.drop (i+1)));rw[hn]at hr;have hnl:=Lex.Dw Lex.iY (s.data.toList.drop (i+1));rw[hn,ae1,<-aof]at hnl;have hcall:=fun(W:World)=>am4 s i n W (by omega) (by omega)
   rw[hr]at hcall;obtain⟨v0,v1,v2,v3,v4,v5,hv⟩:=aef R i;unfold Je at hcall;rw[hv]at hcall;obtain⟨j,hj⟩:=aj (i+(1+n));rw[hj]at hcall;have hrn:i+1+Lex.run Lex.iY (s.data.toList.drop (i+1))=j:=by omega
   have hjs:j<=s.size:=by omega
   refine gq4 hcall hv hrn hc fun HC HV fH yL=>?_;clear hcall hr hv hn hnl hj hrn hc HR2 HM rW HA;go_wp2_with fail
   go_loopg [10] (s.size -(i+1)) (fun g x wx=> ∃k:Nat,x=.int .i64 k/\i+1<=k/\k<=s.size/\s.size - k<=g/\k+Lex.run Lex.iY (s.data.toList.drop k)=j/\W1=wx)
   case atStart=>exact⟨i+1,int_eq' (by omega),aej _,by omega,by omega,fH.out,rfl⟩
   obtain⟨k,rfl,hik,hks,hm,hrk,rfl⟩:=hrel;have wZ:=ah hrk;have fQ:(k:Int)<=s.size:=by omega
   clear hrk fH;by_cases hkl:k<s.size
   ·have aqs:(k:Int)<s.size:=by omega
    have u1:decide (k<s.size)=true:=aei hkl;obtain⟨x,hx⟩:=aj (s[k]'hkl);have hlx:=fun(W:World)=>Tq.out x W
    have kY:=fun(W:World)=>xq.out x W
    have hrk:=wZ.out;rw[jm hkl,hx,Lex.IC]at hrk;simp only at hrk;unfold Lex.iY Lex.dh at hrk;cases hb1:Lex.isLet x with
    |true=>
     rw[hb1]at hlx hrk;rw[apE,apE,aeu rfl]at hrk;have jS:=ah hlx;have HN:=ah (show k+1+Lex.run Lex.iY (s.data.toList.drop (k+1))=j by unfold Lex.iY Lex.dh;omega)
     clear hlx kY hrk hb1;cases gk with
     |zero=>omega
     |succ g=>
      go_wp2_with fail;refine iq7 (jS.out _) ?_;go_wp2
      go_roundg g
      case measure=>omega
      exact⟨k+1,int_eq' (by omega),by omega,by omega,by omega,HN.out,rfl⟩
    |false=>
     rw[hb1]at hlx hrk;rw[aoQ]at hrk;cases hb2:Num.aJ x with
     |true=>
      rw[hb2]at kY hrk;rw[apE,aeu rfl]at hrk;have jS:=ah hlx;have Fj:=ah kY;have HN:=ah (show k+1+Lex.run Lex.iY (s.data.toList.drop (k+1))=j by unfold Lex.iY Lex.dh;omega)
      clear hlx kY hrk hb1 hb2;cases gk with
      |zero=>omega
      |succ g=>
       go_wp2_with fail;refine iq7 (jS.out _) ?_;go_wp2_with fail;refine iq7 (Fj.out _) ?_;go_wp2
       go_roundg g
       case measure=>omega
       exact⟨k+1,int_eq' (by omega),by omega,by omega,by omega,HN.out,rfl⟩
     |false=>
      rw[hb2]at kY hrk;rw[aoQ]at hrk;have jS:=ah hlx;have Fj:=ah kY;by_cases h46:x=46
      ·have t3:((x.toNat:Int) == 46)=true:=by rw[h46];rfl
       rw[aeu (by rw[h46];rfl)]at hrk
       have HN:=ah (show k+1+Lex.run Lex.iY (s.data.toList.drop (k+1))=j by unfold Lex.iY Lex.dh;omega)
       clear hlx kY hrk hb1 hb2 h46;cases gk with
       |zero=>omega
       |succ g=>
        go_wp2_with fail;refine iq7 (jS.out _) ?_;go_wp2_with fail;refine iq7 (Fj.out _) ?_;go_wp2
        go_roundg g
        case measure=>omega
        exact⟨k+1,int_eq' (by omega),by omega,by omega,by omega,HN.out,rfl⟩
      have t3:((x.toNat:Int) == 46)=false:=bq (k:=46) rfl (aek.2 h46);rw[aer (by simpa using h46)]at hrk
      obtain rfl:k=j:=by omega
      clear hlx kY hrk hb1 hb2 h46;go_wp2_with fail;refine iq7 (jS.out _) ?_;go_wp2_with fail;refine iq7 (Fj.out _) ?_;go_wp2_with fail;refine mq7 (HC.out _) fun w1 hb=>?_;have HB:=ah (gy.trans (hb.mono gy.size));have HK:=ah (lN.below hb lN.lt);obtain⟨b0,b1,b2,b3,f0,f1,f2,f3⟩:=vO HK.out;clear hb;go_wp2;exact qI results57 rfl rfl rfl HK.out HB.out HV.out
   have u1:decide (k<s.size)=false:=dF hkl;have hrk:=wZ.out;rw[sO (by omega)]at hrk
   obtain rfl:k=j:=hrk;have hke:k=s.size:=by omega
   subst hke;go_wp2_with fail;refine mq7 (HC.out _) fun w1 hb=>?_;have HB:=ah (gy.trans (hb.mono gy.size));have HK:=ah (lN.below hb lN.lt);obtain⟨b0,b1,b2,b3,f0,f1,f2,f3⟩:=vO HK.out;clear hb;go_wp2;exact qI results57 rfl rfl rfl HK.out HB.out HV.out
  |false=>
   have hr:=HR2.out;rw[aer (by decide)]at hr
   have HR3:=ah hr;clear hr HR2
   go_upto_region 15 with fail
   go_cut [113] (fun aqu wx=>aqu=.bool a/\W1=wx)
   case first=>
    have ha:=HA.out;cases m with
    |false=>
     rw[arQ]at ha;subst ha;clear HA HM;go_wp2_with fail;go_meet;exact⟨rfl,rfl⟩
    |true=>
     rw[aq1]at ha;have hm:=HM.out;rw[afx,aeU,aeU]at hm;have hi1:=hm.2;have aqt:(i:Int)+1<s.size:=by omega
     have hbb:s[i+1]'hi1=bh:=by rw[<-rW.out,aeg hi1]
     have t3:((bh.toNat:Int) == 62)=a:=bq (k:=62) rfl ha;clear ha hm HA HM;go_wp2_with fail;go_meet;exact⟨rfl,rfl⟩
   obtain⟨rfl,rfl⟩:=hcut;clear HA HM rW;obtain⟨b0,b1,b2,b3,f0,f1,f2,f3⟩:=vO lN.out;cases a with
   |true=>
    have hr:=HR3.out;rw[aeu rfl]at hr;have ht:kH R i=.tuple #[.agg #[.int .i64 5,.string ⟨#[45,62]⟩,.int .i64 0,.int .i64 i],.int .i64 ((i:Int)+2),.int .i64 0]:=by rw[<-hr];rfl
    have HT:=ah ht;clear hr ht HR3;go_wp2;exact qI results57 rfl rfl rfl lN.out gy.out HT.out
   |false=>
    have hr:=HR3.out;rw[aer (by decide)]at hr
    have HR4:=ah hr;clear hr HR3;go_wp2_with fail
    go_loopg [12] 10 (fun g x wx=> ∃j:Nat,x=.int .i64 j/\j+g=10/\(∀t,t<j->Lex.mk t≠c)/\W1=wx)
    case atStart=>exact⟨0,rfl,rfl,fun t ht=>by omega,rfl⟩
    obtain⟨j,rfl,hjg,hno,rfl⟩:=hrel;have Lp:=ah hno;clear hno;cases gk with
    |zero=>
     obtain rfl:j=10:=by omega
     have hr:=HR4.out;rw[aer (fun h=>by obtain⟨t,ht,e⟩:=ana h;exact Lp.out t ht e)]at hr
     have ht:kH R i=.tuple #[.agg #[.int .i64 0,.string ⟨#[]⟩,.int .i64 0,.int .i64 i],.int .i64 0,.int .i64 240]:=by rw[<-hr];rfl
     have HT:=ah ht;clear hr ht HR4 hjg;go_wp2;exact qI results57 rfl rfl rfl lN.out gy.out HT.out
    |succ g=>
     have TA:j<10:=by omega
     have asF:(j:Int)<10:=by omega
     have u1:decide (j<10)=true:=aei TA;have hmk:=am7 j TA;have hext:=am9 j TA;obtain⟨q,hq⟩:=aj (Lex.mk j);rw[hq]at hext;have hmk': ∀h':j<({data:= #[40,41,123,125,91,93,58,44,59,45]}:ByteArray).size,({data:= #[40,41,123,125,91,93,58,44,59,45]}:ByteArray)[j]'h'=q:=fun h'=>(hmk h').trans hq
     have hin:=anb TA;rw[hq]at hin;have HQ:=ah hq;clear hmk hq;by_cases hqc:q=c
     ·subst hqc
      have hr:=HR4.out;rw[aeu hin]at hr;have ht:kH R i=.tuple #[.agg #[.int .i64 5,.string ⟨#[q]⟩,.int .i64 0,.int .i64 i],.int .i64 ((i:Int)+1),.int .i64 0]:=by rw[<-hr];rfl
      have HT:=ah ht;have t4:((q.toNat:Int) == q.toNat)=true:=by simp
      clear hr ht HR4 hin;go_wp2;exact qI results57 rfl rfl rfl lN.out gy.out HT.out
     have t4:((q.toNat:Int) == c.toNat)=false:=by
      rw[aek];intro e;exact hqc (afC.1 (by omega))
     have HQC:=ah hqc;clear hin hqc hext;go_wp2
     go_roundg g
     case measure=>omega
     refine⟨j+1,int_eq' (by omega),by omega,fun t ht=> ?_,rfl⟩
     by_cases e:t=j
     ·rw[e,HQ.out];exact HQC.out
     exact Lp.out t (by omega)
end Go.Proofs.YtdijgcnlbfgkdaaGreatDoor
namespace Go.Proofs.YtdijgcnlbfgkdaaGreatDoor
open Go.RowKit Go.Proofs.Tryz
def QH (x:Option (Nat×Nat)):Nat×Nat:=x.getD (0,0)
def anf (x:List Lex.Tok×Option (Nat×Nat)) (w:World) (e:Ending) (w':World):Prop:=
 Below w.heap.size w w'/\ ∃v,e=.returned (.tuple #[v,.int .i64 ((QH x.2).1:Int),.int .i64 ((QH x.2).2:Int)])/\pz w' w.heap.size v x.1
def pz.below {w w':World} {B:Nat} {v:Value} {l:List Lex.Tok} (h:pz w B v l) (hb:Below w.heap.size w w'):pz w' B v l:=by
 unfold pz at h⊢;exact eu h (bV hb none) (fun g c t fz hr=>by cases hr)
def aeh {W W2:World} {v0 v1 v2 v3:Value} (h:W.alloc (.cells #[v0,v1,v2,v3] 94)=W2):
  Below W.heap.size W W2/\ak W2 W.heap.size 94 #[v0,v1,v2,v3]:=by
 subst h;exact⟨(aoa _ W).alloc (aej _) _,ak.new _ _ _⟩
def ang (s:ByteArray) (hs:s.size<=1073741823) (w:World):
  Calls prog 16 #[.string s] w (anf (Lex.read s.data.toList) w):=by
 obtain⟨X,hX⟩:=aj (Lex.read s.data.toList);rw[hX];by_cases hbig:16777216<s.size
 ·have hd:decide (16777216<s.size)=true:=aei hbig
  have hd':decide ((16777216:Int)<s.size)=true:=aei (by omega)
  have hx:X=([],some (0,1)):=by
   rw[<-hX];unfold Lex.read;rw[aeu (by rw[<-aof];exact hbig)]
  subst hx;clear hX hbig;go_enter func16,ntmps16;go_wp2;refine sZ rfl ?_;exact⟨(aoa _ _).alloc (aej _) _,_,rfl,IG w _ _ 4 (aej _)⟩
 have hd:decide (16777216<s.size)=false:=dF hbig;have hd':decide ((16777216:Int)<s.size)=false:=dF (by omega)
 have hsm:s.size<=16777216:=by omega
 have hrd:X=Lex.scan (s.size+1) (s.data.toList.drop (Lex.gap false s.data.toList)) (Lex.gap false s.data.toList):=by
  rw[<-hX];unfold Lex.read;rw[aer (by rw[<-aof];exact hbig)]
  unfold Lex.body;rw[<-aof,agO]
 have ZV:=fun(i:Nat) (hi:i<=s.size) (W:World)=>amL s i W (by omega) hi
 have hgl:=Lex.Fz false s.data.toList;rw[<-aof]at hgl;have hs0:=ZV 0 (by omega)
 rw[afW,agO]at hs0;obtain⟨a0,ha0⟩:=aj (Lex.gap false s.data.toList);rw[ha0]at hs0 hgl hrd;have jc:=ah (show∀W:World,Calls prog 56 #[.string s,.int .i64 0] W fun e w'=>e=.returned (.int .i64 (a0:Int))/\W=w' from hs0)
 have HGP:=ah ZV;have QU:=ah hrd;clear ZV hs0 hrd ha0 hbig hX;go_enter func16,ntmps16;go_wp2_with fail;refine iq7 (jc.out _) ?_;clear jc;go_wp2_with fail
 go_loopg [5,6] s.size (fun g v x wr=> ∃(k:Nat) (pre:List Lex.Tok),x=.int .i64 k/\k<=s.size/\s.size - k<=g/\pre.length<=k/\pz wr w.heap.size v pre/\Below w.heap.size w wr/\X=(pre ++(Lex.scan (g+1) (s.data.toList.drop k) k).1,(Lex.scan (g+1) (s.data.toList.drop k) k).2))
 case atStart=>exact⟨a0,[],rfl,hgl,by omega,by simp,IG w _ _ 4 (aej _),(aoa _ _).alloc (aej _) _,by rw[QU.out];rfl⟩
 obtain⟨k,pre,rfl,hle,hgk,hpl,hown,hbel,hx⟩:=hrel;have HB:=ah hbel;have HX:=ah hx;have hwz:=hbel.size;have hki:(k:Int)<=16777216:=by omega
 obtain⟨A5,c5,rfl⟩:=aH hown;obtain⟨pn,TB⟩:=aj pre.length;rw[TB]at hown hpl;rw[TB];have HO:=ah hown;have iI:=ah TB;clear TB;clear hown hbel hx QU;by_cases hlt:k<s.size
 case neg=>
  have hke:k=s.size:=by omega
  have hxe:X=(pre,none):=by
   rw[HX.out,sO (by omega),Lex.aax,afy]
  subst hxe;subst hke;clear HX;go_wp2;refine sZ rfl ?_;exact⟨HB.out,_,rfl,HO.out⟩
 case pos=>
 have yF:(k:Int)<s.size:=by omega
 have t1:decide (k<s.size)=true:=aei hlt;have hnx:=fun(W:World)=>ane s k W hs hlt
 have hne:s.data.toList.drop k≠ []:=by
  rw[jm hlt];simp
 obtain⟨R,hR⟩:=aj (Lex.tok1 (s.data.toList.drop k));rw[hR]at hnx;obtain⟨g,rfl⟩: ∃g,gk=g+1:=⟨gk - 1,by omega⟩
 cases R with
 |err o e=>
  have hee:=(Lex.Py hne hR).1
  have hxe:X=(pre,some (k+o,e)):=by
   rw[HX.out,Lex.FC hne hR,afy]
  subst hxe;have he0:((e:Int) !=0)=true:=by rw[afd];omega
  obtain⟨p,hp⟩:=aj (k+o);have HN:=ah (fun W:World=>(hnx W).mono (fun e' w' h=>(⟨h.1.trans (by rw[<-hp];rfl),h.2⟩:e'=.returned (.tuple #[.agg #[.int .i64 0,.string ⟨#[]⟩,.int .i64 0,.int .i64 (p:Int)],.int .i64 0,.int .i64 (e:Int)])/\Below W.heap.size W w')))
  have HP:=ah hp;clear hnx hR hne hee HX hp;go_wp2_with fail;refine(HN.out _).mono ?_;rintro e' w1 ⟨rfl,hb⟩;have HB1:=ah hb;have lH:=ah (HO.below hb);clear hb;go_wp2_with fail;obtain⟨W2,hW2⟩:=aj (w1.alloc (.cells #[.int .i64 0,.string ⟨#[]⟩,.int .i64 0,.int .i64 (p:Int)] 94));rw[hW2];obtain⟨hb2,hk2⟩:=aeh hW2;have HB2:=ah hb2;obtain⟨b0,b1,b2,b3,f0,f1,f2,f3⟩:=vO hk2;clear hW2 hb2 hk2
  go_quiet (fail)
  go_wp2;refine sZ rfl ?_;have hz1:=HB1.size;exact⟨below_drewN ((HB.trans (HB1.mono hwz)).trans (HB2.mono (by omega))) _,_,by rw[HP.out];rfl,lH.below (below_drewN HB2.out _)⟩
 |tok kd tx nm n=>
  have hbd:=Lex.Px hR;rw[ae1,<-aof]at hbd;have hsc:=Lex.FB (k:=g+1) (i:=k) hR rfl;obtain⟨m,hm⟩:=aj (k+n);have Me:m<=s.size:=by omega
  have BN:(m:Int)<=16777216:=by omega
  obtain⟨K',hK'⟩:=aj (m+Lex.gap false (s.data.toList.drop m));have hKm:m<=K':=by omega
  have WM:K'<=s.size:=by
   have:=Lex.Fz false (s.data.toList.drop m);rw[ae1,<-aof]at this;omega
  have hg:=HGP.out m Me;rw[hK']at hg;have HG:=ah hg
  have hx2:X=(pre++[⟨kd,tx,nm,k⟩] ++(Lex.scan (g+1) (s.data.toList.drop K') K').1,(Lex.scan (g+1) (s.data.toList.drop K') K').2):=by
   rw[HX.out,hsc];simp only[ahu,afu,aox];rw[hm,show k+(n+Lex.gap false (s.data.toList.drop m))=K' by omega,hK']
  have gV:=ah hx2;have HN:=ah (fun W:World=>(hnx W).mono (fun e' w' h=>(⟨h.1.trans (by rw[<-hm];rfl),h.2⟩:e'=.returned (.tuple #[.agg #[.int .i64 (kd:Int),.string ⟨tx.toArray⟩,.int .i64 nm,.int .i64 (k:Int)],.int .i64 (m:Int),.int .i64 0])/\Below W.heap.size W w')))
  have hpn:pn<536870912:=by omega
  have hkm:k<m:=by omega
  clear hnx hR hne HX hsc hbd hx2 hg hK' HGP hm;go_wp2_with fail;refine(HN.out _).mono ?_;rintro e' w1 ⟨rfl,hb⟩;have HB1:=ah hb;have lH:=ah (HO.below hb);have hz1:=hb.size;clear hb;obtain⟨W2,hW2⟩:=aj (w1.alloc (.cells #[.int .i64 (kd:Int),.string ⟨tx.toArray⟩,.int .i64 nm,.int .i64 (k:Int)] 94));obtain⟨hb2,hk2⟩:=aeh hW2;have HB2:=ah hb2;have hz2:=hb2.size;obtain⟨b0,b1,b2,b3,f0,f1,f2,f3⟩:=vO hk2;have lW:=ah (lH.below hb2);have ho2:=lW.out;unfold pz at ho2;rw[iI.out]at ho2;have HO3:=ah ho2;have HW2:=ah hW2;clear hb2 hk2 hW2 ho2;have aqx:w.heap.size<=W2.heap.size:=by omega
  go_upto_region 9 with fail
  rw[HW2.out];go_wp2_with (at_builtin;refine DJ rfl (.tmp 34) (.tmp 36) 44 94 (.agg #[.int .i64 0,.string ⟨#[]⟩,.int .i64 0,.int .i64 0]) 4 40 underlying44 abO rfl (by decide) (by decide) rfl w.heap.size (.slice A5 pn c5) pn (nC pre) W2 rfl HO3.out (zT ⟨kd,tx,nm,k⟩) _ rfl rfl (by simp[zT,Value.oneCell']) rfl hpn aqx ?_)
  intro v3 w3 hown3 aqy _ ahq
  have hO3:pz w3 w.heap.size v3 (pre++[⟨kd,tx,nm,k⟩]):=by
   unfold pz;rw[aeo,iI.out,abN];exact hown3
  have HO4:=ah hO3;have HB4:=ah (((HB.trans (HB1.mono hwz)).trans (HB2.mono (by omega))).trans ahq)
  clear hown3 aqy ahq hO3;go_wp2_with fail;refine(HG.out _).mono ?_;rintro e' w' ⟨rfl,rfl⟩;go_wp2
  go_roundg g
  case measure=>omega
  exact⟨K',_,rfl,WM,by omega,by rw[aeo,iI.out,afP];omega,HO4.out,HB4.out,gV.out⟩
attribute [local go_sem] ar4
def sJ.kp {base B:Nat} {x:Cy.aI×List Value} {w w':World} (h:sJ w B x) (hk:Kp base w w'):sJ w' B x:=by
 obtain⟨s,t,e,h1,h2⟩:=h;exact⟨s,t,e,nG h1 hk (by decide) (by decide) (by decide),h2.kp hk (by decide) (by decide) (by decide)⟩
def kF.kp {base B:Nat} {v:Value} {ps:List Cy.aI} {w w':World} (h:kF w B v ps) (hk:Kp base w w'):kF w' B v ps:=by
 obtain⟨l,e,hx,ho⟩:=h;exact⟨l,e,fun x hm=>(hx x hm).kp hk,nG ho hk (by decide) (by decide) (by decide)⟩
def kF.kt {base B:Nat} {v:Value} {ps:List Cy.aI} {w w':World} (h:kF w B v ps) (hk:Kt 26 base w w'):kF w' B v ps:=by
 obtain⟨l,e,hx,ho⟩:=h;refine⟨l,e,fun x hm=> ?_,oh ho hk (by decide)⟩
 obtain⟨s,t,e,h1,h2⟩:=hx x hm;exact⟨s,t,e,oh h1 hk (by decide),h2.kt hk (by decide) (by decide) (by decide)⟩
def kF.lower {W:World} {B B':Nat} {v:Value} {ps:List Cy.aI} (h:kF W B v ps) (hb:B'<=B):kF W B' v ps:=by
 obtain⟨l,e,h1,h2⟩:=h;refine⟨l,e,fun x hx=> ?_,jL h2 hb⟩
 obtain⟨s,t,e,o1,o2⟩:=h1 x hx;exact⟨s,t,e,jL o1 hb,o2.base hb⟩
def kF.at {V:World} {B n c k:Nat} {A:Option Addr} {ps:List Cy.aI} {p:Cy.aI} (h:kF V B (.slice A n c) ps) (hn:ps.length=n) (hk:ps[k]?=some p): ∃g cs,A=some ⟨g,0,none⟩/\g<V.heap.size/\sJ V B (p,cs)/\ ∀j,j<6->V.cell? ⟨g,k*6+j,none⟩=cs[j]?:=by
 obtain⟨l,rfl,h1,h2⟩:=h;rw[hn]at h2;rw[aeY]at hk;obtain⟨x,hx,rfl⟩:=afr.1 hk
 have hlen: ∀y∈l,y.2.length=6:=fun y hy=>by
  obtain⟨s,t,e,-,-⟩:=h1 y hy;rw[e];rfl
 have hm:=aew hx;have hkn:k<n:=by have:=(aeK.1 hx).1;rw[aeP]at hn;omega
 obtain⟨g,e,-⟩:=yh h2 (t:=k*6) (by omega)
 obtain⟨b,off,e2,hb,-⟩:=(Reads.dZ h2).2 (by omega)
 rw[e]at e2;cases e2;refine⟨g,x.2,e,hb,h1 x hm,fun j hj=> ?_⟩
 obtain⟨g',e',-,hc,-⟩:=yh h2 (t:=k*6+j) (by omega)
 rw[e]at e';cases e';rw[hc,flat_get hlen hx j hj]
structure Iu (w:World) (gb:Nat) (ps:List Cy.aI) (A:Option Addr) (n c:Nat) (An:Option Addr) (cn:Nat) (Ar:Option Addr) (cr:Nat) (g:Gr.G) (k:Nat) (V:World):Prop where
 gr:ak V gb 26 #[.slice An g.nodes.length cn,.slice Ar g.ay.length cr]
 own:dV V (w.heap.size+2) (.agg #[.slice An g.nodes.length cn,.slice Ar g.ay.length cr]) g
 rows:kF V (w.heap.size+2) (.slice A n c) ps
 res:ak V w.heap.size 26 #[.slice none 0 0,.slice none 0 0]
 non:ak V (w.heap.size+1) 26 #[.slice none 0 0,.slice none 0 0]
 bel:Below w.heap.size w V
 mkd:Cy.make Gr.G0 ps=Cy.make g (ps.drop k)
 sz:Cy.qP g
 ds:FZ g
 gb:w.heap.size+2<=gb
def Cy.qP.small {g:Gr.G} (h:Cy.qP g):Small g:=
 ⟨aep h.lens.1 (by decide),aep h.lens.2 (by decide),fun n hn=>aep (h.ns n hn).ll (by decide),fun n hn=>aep (h.ns n hn).pl (by decide),fun n hn=>aep (h.rs n hn).pl (by decide)⟩
def Iu.next {w V V6:World} {gb n c k:Nat} {ps:List Cy.aI} {A An Ar A1 A2:Option Addr} {cn cr n1 c1 n2 c2:Nat} {g:Gr.G} {p:Cy.aI} (h:Iu w gb ps A n c An cn Ar cr g k V) (hp:ps[k]?=some p) (hz:Cy.rH p) (k6:Kp (w.heap.size+2) V V6) (he:(Cy.add g p).2=0)
  (hg:dV V6 (w.heap.size+2) (.agg #[.slice A1 n1 c1,.slice A2 n2 c2]) (Cy.add g p).1) (h1:(Cy.add g p).1.nodes.length=n1) (h2:(Cy.add g p).1.ay.length=n2):
  Iu w gb ps A n c A1 c1 A2 c2 (Cy.add g p).1 (k+1) ((V6.setCell ⟨gb,0,none⟩ (.slice A1 n1 c1)).setCell ⟨gb,1,none⟩ (.slice A2 n2 c2)):=by
 subst h1 h2;have kb:ak V6 gb 26 _:=k6.keep _ _ _ _ h.gr (by decide) (by decide) (by decide)
 have ks:=kb.aG 0 (.slice A1 (Cy.add g p).1.nodes.length c1);have t1:=Kt.cell (base:=w.heap.size+2) kb h.gb 0 (.slice A1 (Cy.add g p).1.nodes.length c1);have t2:=Kt.cell (base:=w.heap.size+2) ks h.gb 1 (.slice A2 (Cy.add g p).1.ay.length c2);have kt:=t1.trans t2;have hgb:=h.gb
 have far: ∀{b cs},b<w.heap.size+2->ak V b 26 cs->ak ((V6.setCell ⟨gb,0,none⟩ (.slice A1 (Cy.add g p).1.nodes.length c1)).setCell ⟨gb,1,none⟩ (.slice A2 (Cy.add g p).1.ay.length c2)) b 26 cs:=fun {b cs} hb hk=>
  ((show ak V6 b _ _ from k6.keep _ _ _ _ hk (by decide) (by decide) (by decide)).far (p:=⟨gb,0,none⟩) (show b≠gb by omega) _).far (p:=⟨gb,1,none⟩) (show b≠gb by omega) _
 refine⟨by simpa using ks.aG 1 (.slice A2 (Cy.add g p).1.ay.length c2),hg.kt kt (by decide) (by decide) (by decide) (by decide) (by decide),(h.rows.kp k6).kt kt,far (by omega) h.res,far (by omega) h.non,h.bel.trans ((k6.bel.trans kt.bel).mono (by omega)), ?_,Cy.UJ h.sz hz,Cy.acV h.ds he,hgb⟩
 rw[h.mkd,afk (aeK.1 hp).1,(aeK.1 hp).2,Cy.make,aer (by rw[he];decide)]
def Iu.stop {w V V6:World} {gb n c k:Nat} {ps:List Cy.aI} {A An Ar:Option Addr} {cn cr:Nat} {g:Gr.G} {p:Cy.aI} (h:Iu w gb ps A n c An cn Ar cr g k V) (hp:ps[k]?=some p) (k6:Kp (w.heap.size+2) V V6) (he:(Cy.add g p).2≠0) (u0 u1:Value):
  Cy.make Gr.G0 ps=(Gr.G0,(Cy.add g p).2)/\ak ((V6.setCell ⟨gb,0,none⟩ u0).setCell ⟨gb,1,none⟩ u1) w.heap.size 26 #[.slice none 0 0,.slice none 0 0]/\ak ((V6.setCell ⟨gb,0,none⟩ u0).setCell ⟨gb,1,none⟩ u1) (w.heap.size+1) 26 #[.slice none 0 0,.slice none 0 0]/\Below w.heap.size w ((V6.setCell ⟨gb,0,none⟩ u0).setCell ⟨gb,1,none⟩ u1):=by
 have hgb:=h.gb
 have far: ∀{b cs},b<w.heap.size+2->ak V b 26 cs->ak ((V6.setCell ⟨gb,0,none⟩ u0).setCell ⟨gb,1,none⟩ u1) b 26 cs:=fun {b cs} hb hk=>
  ((show ak V6 b _ _ from k6.keep _ _ _ _ hk (by decide) (by decide) (by decide)).far (p:=⟨gb,0,none⟩) (show b≠gb by omega) _).far (p:=⟨gb,1,none⟩) (show b≠gb by omega) _
 refine⟨?_,far (by omega) h.res,far (by omega) h.non,((h.bel.trans (k6.bel.mono (by omega))).setCell (p:=⟨gb,0,none⟩) (show w.heap.size<=gb by omega) _).setCell (p:=⟨gb,1,none⟩) (show w.heap.size<=gb by omega) _⟩
 rw[h.mkd,afk (aeK.1 hp).1,(aeK.1 hp).2,Cy.make,aeu he]
end Go.Proofs.YtdijgcnlbfgkdaaGreatDoor
namespace Go.Proofs.YtdijgcnlbfgkdaaGreatDoor
open Go.RowKit Go.Proofs.Tryz
attribute [local go_sem] ar4
def ak.give {w V:World} {u0 u1:Value} (h:ak V w.heap.size 26 #[u0,u1]) (hb:Below w.heap.size w V) (v0 v1:Value):ak ((V.setCell ⟨w.heap.size,0,none⟩ v0).setCell ⟨w.heap.size,1,none⟩ v1) w.heap.size 26 #[v0,v1]/\Below w.heap.size w ((V.setCell ⟨w.heap.size,0,none⟩ v0).setCell ⟨w.heap.size,1,none⟩ v1):=h.failed hb v0 v1
def anh {f:FuncId} {args:Array Value} {B:Nat} {R:Gr.G×Nat} {w:World} (h:Calls prog f args w (Ed B R w)):Calls prog f args w fun e w'=> ∃v,e=.returned v/\ ∃A1 n1 c1 A2 n2 c2,v=.tuple #[.agg #[.slice A1 n1 c1,.slice A2 n2 c2],.int .i64 (R.2:Nat)]/\Kp B w w'/\(R.2=0->dV w' B (.agg #[.slice A1 n1 c1,.slice A2 n2 c2]) R.1/\R.1.nodes.length=n1/\R.1.ay.length=n2):=
 h.mono fun _ _ ⟨A1,n1,c1,A2,n2,c2,he,hr⟩=>⟨_,he,A1,n1,c1,A2,n2,c2,rfl,hr⟩
def Ii.below {w w':World} {B:Nat} {An:Option Addr} {nn cn:Nat} {Ar:Option Addr} {rn cr:Nat} {g:Gr.G} {p:Cy.aI} {cs:List Value} (h:Ii w B An nn cn Ar rn cr g p cs) (hb:Below w.heap.size w w'):Ii w' B An nn cn Ar rn cr g p cs:=
 ⟨h.own.below hb,h.hn,h.hr,h.pat.kp (Kp.of_below hb h.hB),h.sz,aep h.hB hb.size⟩
def ani (s:ByteArray) (w:World) (hs:s.size<=1073741823):
  Calls prog 6 #[.string s] w (acW w (Cy.parse s.data.toList)):=by
 obtain⟨R,hR⟩:=aj (Cy.parse s.data.toList);rw[hR];unfold Cy.parse at hR;obtain⟨W1,hW1⟩:=aj (w.alloc (.cells #[.slice none 0 0,.slice none 0 0] 26));obtain⟨W2,hW2⟩:=aj (W1.alloc (.cells #[.slice none 0 0,.slice none 0 0] 26));have hb1:Below w.heap.size w W1:=hW1▸(aoa _ w).alloc (aej _) _;have hb2:Below W1.heap.size W1 W2:=hW2▸(aoa _ W1).alloc (aej _) _;have hs1:W1.heap.size=w.heap.size+1:=by rw[<-hW1];simp
 have hs2:W2.heap.size=w.heap.size+1+1:=by rw[<-hW2];simp[hs1]
 have hk1:ak W1 w.heap.size 26 #[.slice none 0 0,.slice none 0 0]:=by rw[<-hW1];exact ak.new _ _ _
 have hk2:ak W2 (w.heap.size+1) 26 #[.slice none 0 0,.slice none 0 0]:=by rw[<-hW2,<-hs1];exact ak.new _ _ _
 have HA:=ah (ang s hs W2);have hok:=Cy.UD s.data.toList;have htl:=Cy.UE s.data.toList;obtain⟨ts,oe,hrd⟩: ∃ts oe,Lex.read s.data.toList=(ts,oe):=⟨_,_,rfl⟩;have herr:=fun(p e:Nat) (h:(Lex.read s.data.toList).2=some (p,e))=>Cy.UF h
 rw[hrd]at HA hok htl hR herr;refine gq8 (hb1.trans (hb2.mono hb1.size)) (hk1.below hb2 hk1.lt) hk2 hs2 hok htl hR herr fun HB2 dw aP bf bF kJ HR HE=>?_;have HW2:=ah (show(w.alloc (.cells #[.slice none 0 0,.slice none 0 0] 26)).alloc (.cells #[.slice none 0 0,.slice none 0 0] 26)=W2 by rw[hW1];exact hW2)
 clear herr hb1 hb2 hs1 hs2 hk1 hk2 hok htl hR hrd hs hW1 hW2;go_enter func6,ntmps6
 go_upto_region 2 with fail
 rw[HW2.out];clear HW2;go_wp2_with fail;refine HA.mono ?_;rintro e w3 ⟨b3,v2,rfl,o2⟩;refine gq3 (HB2.trans (b3.mono HB2.size)) (dw.below b3 dw.lt) (aP.below b3 aP.lt) fun HB3 HR3 CX=>?_;have HT:=ah (show pz w3 W2.heap.size v2 ts from o2)
 clear b3 o2 HA dw aP HB2;obtain⟨n0,n1⟩:=cells2 CX.out;obtain⟨r0,r1⟩:=cells2 HR3.out;have f0:=HR3.frozen 0;have f1:=HR3.frozen 1;have Bf:=ah (HR3.give HB3.out (.slice none 0 0) (.slice none 0 0));cases oe with
 |some pe=>
  obtain⟨p,e0⟩:=pe;have he:R=(Gr.G0,e0):=HR.symm;subst he
  have hne:((e0:Int) !=0)=true:=by
   have:=HE.out p e0 rfl;simp;omega
  try simp only[QH,Option.getD_some]
  go_wp2_with fail;exact vJ (v2:=.int .i64 (e0:Nat)) rfl (by simp) (by simp) Bf.out.1 ⟨_,rfl,dV.G0 _ _,Bf.out.2⟩
 |none=>
  try simp only[QH,Option.getD_none]
  obtain⟨A2,c2,rfl⟩:=aH (show w3.ownsRow _ _ _ v2 _ _ from HT.out)
  obtain⟨n,hn⟩:=aj ts.length;rw[hn];have o3:w3.ownsRow W2.heap.size 94 4 (.slice A2 n c2) n (nC ts):=by have:=HT.out;unfold pz at this;rwa [hn]at this
  have hp:=al2 w3.heap.size A2 n c2 ts w3 (Reads.dZ o3) (aej _) hn (hn▸kJ.out) bF.out;obtain⟨xs,ok,hx⟩: ∃xs ok,Cy.pJ (ts.length+1) ⟨ts,false⟩ []=(xs,ok):=⟨_,_,rfl⟩;rw[hx]at hp;have hsp:=Cy.alK ts;rw[hx]at hsp;have HP:=ah hp;have nS:=ah hsp;clear o3 hp hsp hx r0 r1 f0 f1 n0 n1 Bf HT;go_wp2_with fail;refine HP.mono ?_;rintro e w4 ⟨A3,c3,rfl,o4,b4⟩;obtain⟨n3,hn3⟩:=aj xs.length
  try simp only at o4
  try rw[hn3]
  try rw[hn3]at o4
  refine gq4 (HB3.trans (b4.mono HB3.size)) (HR3.below b4 HR3.lt) (CX.below b4 CX.lt) (o4.lower (B':=w.heap.size+2) (by have:=HB3.size;have:=CX.lt;omega)) fun HB4 HR4 uX xF=>?_
  clear b4 o4 HP HR3 CX HB3;obtain⟨n0,n1⟩:=cells2 uX.out;obtain⟨r0,r1⟩:=cells2 HR4.out;have f0:=HR4.frozen 0;have f1:=HR4.frozen 1;have Bf:=ah (HR4.give HB4.out (.slice none 0 0) (.slice none 0 0));cases ok with
  |false=>
   have he:R=(Gr.G0,250):=by
    have hr:=HR.out;cases hps:Cy.patterns ts with
    |none=>simp only[hps]at hr;exact hr.symm
    |some ps=>have:=nS.out;simp only[hps,anM]at this;exact absurd this.2 (by decide)
   subst he;go_wp2_with fail;exact vJ (v2:=.int .i64 (250:Nat)) rfl (by simp) (by simp) Bf.out.1 ⟨_,rfl,dV.G0 _ _,Bf.out.2⟩
  |true=>
   have hps:Cy.patterns ts=some xs:=by
    cases hps:Cy.patterns ts with
    |none=>have:=nS.out;simp only[hps]at this;exact absurd this (by decide)
    |some ps=>have:=nS.out;simp only[hps,anM]at this;rw[this.1]
   have Hl:=Cy.UH hps bF.out kJ.out;have hr:=HR.out;simp only[hps]at hr;have hn31:n3<=16777216:=hn3▸aep Hl.2 kJ.out;have Df:(n3:Int)<=16777216:=by omega
   obtain⟨gb,hgb⟩:=aj w4.heap.size;obtain⟨W5,fU⟩:=aj (w4.alloc (.cells #[.slice none 0 0,.slice none 0 0] 26));have b5:Below w4.heap.size w4 W5:=fU▸(aoa _ w4).alloc (aej _) _
   have hP0:Iu w gb xs A3 n3 c3 none 0 none 0 Gr.G0 0 W5:=by
    have hlt:=uX.lt;refine⟨by rw[<-fU,<-hgb];exact ak.new _ _ _,dV.G0 _ _,xF.kp (Kp.of_below b5 (by omega):Kp (w.heap.size+2) w4 W5),HR4.below b5 HR4.lt,uX.below b5 hlt,HB4.trans (b5.mono (by omega)),rfl,Cy.Qd,afH,by omega⟩
   refine gq6 hP0 Hl.1 hn3 hr fU hgb fun HP0 Yr aC HRR tN TD=>?_;clear hps Hl hr hn3 hgb fU b5 hP0 r0 r1 f0 f1 n0 n1 Bf HR4 uX HB4 xF nS HR HE
   go_upto_region 9 with fail
   rw[tN.out,TD.out];clear tN;go_wp2_with fail
   go_loopg [11] n3 (fun kx x wr=> ∃(k:Nat) (g:Gr.G) (An:Option Addr) (cn:Nat) (Ar:Option Addr) (cr:Nat),x=.int .i64 k/\k+kx=n3/\Iu w gb xs A3 n3 c3 An cn Ar cr g k wr)
   case atStart=>exact⟨0,_,_,_,_,_,rfl,by omega,HP0.out⟩
   obtain⟨k,g,An,cn,Ar,cr,rfl,hk,hs⟩:=hrel;have HS:=ah hs;obtain⟨nn,hnn⟩:=aj g.nodes.length;obtain⟨rn,hrn⟩:=aj g.ay.length;have hgr:=hs.gr;have hown:=hs.own;rw[hnn,hrn]at hgr hown;obtain⟨g0,g1⟩:=cells2 hgr;refine gq3 hgr hown (And.intro hnn hrn) fun uO HOW bT=>?_;clear HP0 hs hgr hown hnn hrn;cases gk with
   |zero=>
    obtain rfl:k=n3:=by omega
    have hmk:Cy.make Gr.G0 xs=(g,0):=by rw[HS.mkd,agS (by rw[aC.out];exact aej _)];rfl
    have hr:=HRR.out;rw[hmk,aer (by simp)]at hr
    have HC:=ah (amo wr.heap.size _ g wr (HOW.CW HS.sz.ok) (aej _) HS.sz.small HS.ds);have jB:=ah hr;have x0:=uO.frozen 0;have x1:=uO.frozen 1;clear hmk hr hk;go_wp2_with fail;refine HC.mono ?_;rintro e w7 ⟨u7,rfl,g7,b7⟩
    obtain⟨A5,m5,c5,A6,m6,c6,rfl⟩: ∃A n c B m d,u7=.agg #[.slice A n c,.slice B m d]:=by
     obtain⟨sn,sr,ln,lr,rfl,-,-,h3,-,-,h6⟩:=g7;obtain⟨A,c,rfl⟩:=aH h3;obtain⟨B,d,rfl⟩:=aH h6;exact⟨A,_,c,B,_,d,rfl⟩
    have kb:=uO.below b7 uO.lt;have hgb:=HS.gb;have ks:=kb.aG 0 (.slice A5 m5 c5);have t2:=(Kt.cell (base:=w.heap.size) kb (by omega) 0 (.slice A5 m5 c5)).trans (Kt.cell (base:=w.heap.size) ks (by omega) 1 (.slice A6 m6 c6))
    obtain⟨W8,Kw⟩:=aj ((w7.setCell ⟨gb,0,none⟩ (.slice A5 m5 c5)).setCell ⟨gb,1,none⟩ (.slice A6 m6 c6));have kb8:ak W8 gb 26 #[.slice A5 m5 c5,.slice A6 m6 c6]:=by rw[<-Kw];simpa using ks.aG 1 (.slice A6 m6 c6)
    rw[Kw]at t2;have g8:=g7.kt t2 (by decide) (by decide) (by decide) (by decide) (by decide)
    have pW:ak W8 w.heap.size 26 #[.slice none 0 0,.slice none 0 0]:=by rw[<-Kw];exact((HS.res.below b7 HS.res.lt).far (p:=⟨gb,0,none⟩) (show w.heap.size≠gb by omega) _).far (p:=⟨gb,1,none⟩) (show w.heap.size≠gb by omega) _
    have gq:ak W8 (w.heap.size+1) 26 #[.slice none 0 0,.slice none 0 0]:=by rw[<-Kw];exact((HS.non.below b7 HS.non.lt).far (p:=⟨gb,0,none⟩) (show w.heap.size+1≠gb by omega) _).far (p:=⟨gb,1,none⟩) (show w.heap.size+1≠gb by omega) _
    have hbw:Below w.heap.size w W8:=HS.bel.trans ((b7.mono HS.bel.size).trans t2.bel);have bH:=ah (amJ _ _ _ W8 (g8.CW (Cy.UK HS.sz).ok) (aej _));have y0:=kb.cell 0;have y1:=kb.cell 1;have z0:=kb.frozen 0;have z1:=kb.frozen 1;have HX:=ah (And.intro (g8.lower HS.bel.size) (And.intro kb8 (And.intro pW (And.intro gq hbw))));have HW8:=ah Kw;clear g7 b7 kb ks t2 Kw kb8 g8 pW gq hbw HC g0 g1 x0 x1 hgb
    go_upto_region 16 with fail
    rw[HW8.out];obtain⟨e0,e1⟩:=cells2 HX.out.2.1;clear HW8 y0 y1 z0 z1;go_wp2_with fail;refine mq8 bH fun w9 b9=>?_;obtain⟨lG,kb8,pW,gq,hbw⟩:=HX.out;have kb9:=kb8.below b9 kb8.lt;have jW:=pW.below b9 pW.lt;have hn9:=gq.below b9 gq.lt;have aB:=hbw.trans (b9.mono hbw.size);refine gq3 (jW.give aB (.slice none 0 0) (.slice none 0 0)) (jW.give aB (.slice A5 m5 c5) (.slice A6 m6 c6)) (((lG.below b9).kt (Kt.cell (base:=0) jW (anH _) 0 (.slice A5 m5 c5)) (by decide) (by decide) (by decide) (by decide) (by decide)).kt (Kt.cell (base:=0) (jW.aG 0 (.slice A5 m5 c5)) (anH _) 1 (.slice A6 m6 c6)) (by decide) (by decide) (by decide) (by decide) (by decide)) fun ahv ahw pY=>?_
    obtain⟨e0,e1⟩:=cells2 kb9;obtain⟨m0,m1⟩:=cells2 hn9;obtain⟨r0,r1⟩:=cells2 jW;have f0:=jW.frozen 0;have f1:=jW.frozen 1;obtain⟨E,hE⟩:=aj ((Gr.check (Gr.canon g)).1);rw[hE];have hr4:=jB.out;rw[hE]at hr4;clear lG kb8 pW gq hbw kb9 jW hn9 aB b9 HX bH jB;by_cases hE0:E=0
    ·subst hE0
     obtain rfl:R=(Gr.canon g,0):=hr4.symm;go_wp2_with fail;exact vJ (v2:=.int .i64 ((0:Nat):Int)) rfl (by simp) (by simp) ahw.out.1 ⟨_,rfl,pY.out,ahw.out.2⟩
    obtain rfl:R=(Gr.G0,E):=by rw[aeu hE0]at hr4;exact hr4.symm
    have hne:((E:Int) !=0)=true:=by rw[afd];omega
    go_wp2_with fail;exact vJ (v2:=.int .i64 (E:Nat)) rfl (by simp) (by simp) ahv.out.1 ⟨_,rfl,dV.G0 _ _,ahv.out.2⟩
   |succ kq=>
    have hkn:k<n3:=by omega
    have dW:(k:Int)<n3:=by omega
    have pk:(0:Int)<=(k:Int):=by omega
    have tk:((k:Int)).toNat=k:=by omega
    have tw:IntKind.i64.wrap ((k:Int)+1)=(k:Int)+1:=by unfold IntKind.wrap;simp[IntKind.signed,IntKind.bits];omega
    obtain⟨p,hp⟩: ∃p,xs[k]?=some p:=⟨_,aen (by rw[aC.out];exact hkn)⟩
    obtain⟨pb,cs,rfl,hpb,hpc,hcell⟩:=HS.rows.at aC.out hp;obtain⟨sn,sp,ecs,o1,o2⟩:=hpc
    dsimp only at ecs o1 o2
    subst ecs;obtain⟨A1,c1,rfl⟩:=aH o1;obtain⟨A2',c2',rfl⟩:=o2.Ec;obtain⟨zf,jC⟩:=aj (⟨p.first.toArray⟩:ByteArray);obtain⟨zw,hzw⟩:=aj (⟨p.word.toArray⟩:ByteArray);obtain⟨zo,kL⟩:=aj (⟨p.other.toArray⟩:ByteArray);have e1:ST p.first=.string zf:=by unfold ST;rw[jC]
    have e2:ST p.word=.string zw:=by unfold ST;rw[hzw]
    have e3:ST p.other=.string zo:=by unfold ST;rw[kL]
    have hwi:Ii wr (w.heap.size+2) An nn cn Ar rn cr g p [.bool p.rel,.string zf,.string zw,.string zo,.slice A1 p.names.length c1,.slice A2' p.props.length c2']:=by
     refine⟨HOW.out,⟨bT.out.1, ?_⟩,⟨bT.out.2, ?_⟩,⟨_,_,by rw[e1,e2,e3],o1,o2⟩,Yr.out p (aew hp),by have:=HS.non.lt;omega⟩
     ·rw[<-bT.out.1];exact aep HS.sz.lens.1 (by decide)
     rw[<-bT.out.2];exact aep HS.sz.lens.2 (by decide)
    rw[e1,e2,e3]at hcell;have q0:=hcell 0 (by decide)
    have q1:=hcell 1 (by decide)
    have q2:=hcell 2 (by decide)
    have q3:=hcell 3 (by decide)
    have q4:=hcell 4 (by decide)
    have q5:=hcell 5 (by decide)
    simp only[aeQ,aev,agw]at q0 q1 q2 q3 q4 q5;obtain⟨pn,hpn⟩:=aj p.names.length;obtain⟨pp,hpp⟩:=aj p.props.length;obtain⟨rl,hrl⟩:=aj p.rel;rw[hpn,hpp,hrl]at hwi;rw[hrl]at q0;rw[hpn]at q4;rw[hpp]at q5;refine gq3 hwi hp hk fun ZW HP HK=>?_;clear hp hcell o1 o2 jC hzw kL e1 e2 e3 hwi hpn hpp hrl hk;have HM:=ah (al9 (ZW.below ((aoa wr.heap.size wr).drew)));have ZX:=ah (fun(V:World) (h:Kp (w.heap.size+2) wr.drew V)=>show ak V gb 26 _ from h.keep _ _ _ _ (uO.below ((aoa wr.heap.size wr).drew) uO.lt) (by decide) (by decide) (by decide))
    obtain⟨E,hE⟩:=aj ((Cy.add g p).2);have uQ:=ah hE;clear hE uO HOW
    go_upto_region 12 with fail
    go_region_law (first|(refine IU 18 rfl (by go_simp) (anh HM.out) ?_;rintro _ w6 ⟨B1,n1,d1,B2,n2,d2,rfl,k6,hy⟩;have kb:=ZX.out w6 k6;have x0:=kb.cell 0;have x1:=kb.cell 1;have y0:=kb.frozen 0;have y1:=kb.frozen 1;rw[uQ.out])|fail)
    all_goals
     have hk6:Kp (w.heap.size+2) wr w6:=(Kp.of_below ((aoa wr.heap.size wr).drew) ZW.hB).trans k6;by_cases hE0:E=0
     ·obtain⟨uP,h61,Jp⟩:=hy (uQ.trans hE0)
      have oC:=ah (HS.next HP.out ZW.sz hk6 (uQ.trans hE0) uP h61 Jp);subst hE0;clear uP h61 Jp hy hk6 kb x0 x1 y0 y1 k6 q0 q1 q2 q3 q4 q5 g0 g1 HM ZX;go_wp2_with fail
      go_roundg kq
      case measure=>omega
      exact⟨k+1,_,_,_,_,_,int_eq (by omega),by have:=HK.out;omega,oC.out⟩
     have hst:=HS.stop HP.out hk6 (fun h=>hE0 (uQ.symm.trans h)) (.slice B1 n1 d1) (.slice B2 n2 d2)
     rw[uQ.out]at hst;obtain⟨hmk,Cb,Gy,hb6⟩:=hst
     have hx:R=(Gr.G0,E):=by
      rw[<-HRR.out,hmk];exact aeu hE0
     subst hx;obtain⟨W7,ES⟩:=aj ((w6.setCell ⟨gb,0,none⟩ (.slice B1 n1 d1)).setCell ⟨gb,1,none⟩ (.slice B2 n2 d2));rw[ES]at Cb Gy hb6;have Bf:=ah (Cb.give hb6 (.slice none 0 0) (.slice none 0 0));obtain⟨m0,m1⟩:=cells2 Gy;obtain⟨r0,r1⟩:=cells2 Cb;have f0:=Cb.frozen 0;have f1:=Cb.frozen 1;have hne:((E:Int) !=0)=true:=by rw[afd];omega
     have N7:=ah ES;clear hmk Cb Gy hb6 hy hk6 kb x0 x1 y0 y1 k6 q0 q1 q2 q3 q4 q5 g0 g1 ES hE0 HM ZX
     try rw[N7.out]
     go_upto_region 13 with fail
     try rw[N7.out]
     go_wp2_with fail;exact vJ (v2:=.int .i64 (E:Nat)) rfl (by simp) (by simp) Bf.out.1 ⟨_,rfl,dV.G0 _ _,Bf.out.2⟩
end Go.Proofs.YtdijgcnlbfgkdaaGreatDoor
