/- Lemmas. -/
import Derived.Test.YtdijgcnlbfgkdaaGreatDoorUP33
set_option maxHeartbeats 64000000
set_option maxRecDepth 1000000
set_option linter.all false
namespace Go.Proofs.YtdijgcnlbfgkdaaGreatDoor
open Go.RowKit Go.Proofs.Tryz
def Reads.head {W:World} {B n q b o:Nat} {xs:List Value} (h:Reads W B 1 (some ⟨b,o,none⟩) n xs) (hq:q<=n):Reads W B 1 (some ⟨b,o,none⟩) q (xs.take q):=by
 refine⟨by rw[afo,h.1];omega,fun h0=> ?_⟩
 obtain⟨b',o',e,hb,hc⟩:=h.2 (by omega)
 cases e
 exact⟨b,o,rfl,hb,fun j u hu=>hc j u (by
  rw[apr]at hu
  split at hu
  ·exact hu
  cases hu)⟩
def Reads.tail {W:World} {B n q b o:Nat} {xs:List Value} (h:Reads W B 1 (some ⟨b,o,none⟩) n xs) (hq:q<=n):Reads W B 1 (some ⟨b,o+q,none⟩) (n - q) (xs.drop q):=by
 refine⟨by rw[ae1,h.1];omega,fun h0=> ?_⟩
 obtain⟨b',o',e,hb,hc⟩:=h.2 (by omega)
 cases e
 exact⟨b,o+q,rfl,hb,fun j u hu=>by
  rw[aot]at hu;have:=hc _ u hu
  rwa [<-anL]at this⟩
def adU (w:World) (s:List (List UInt8)) (e:Ending) (w':World):Prop:= ∃(A':Option Addr) (c' m:Nat) (out:List (List UInt8)),e=.returned (.slice A' m c')/\out.length=m/\w'.ownsRow w.heap.size 9 1 (.slice A' m c') m (out.map ST)/\Gr.bJ s out/\Below w.heap.size w w'
def adV (l:List (List UInt8)): ∀u∈l.map ST,u.oneCell'=true:=fun u hu=>by
 obtain⟨x,-,rfl⟩:=ant.1 hu;rfl
def adW (B:Nat) (A:Option Addr) (c n:Nat) (s:List (List UInt8)) (w:World) (h:Reads w B 1 A n (s.map ST)) (hl:s.length=n) (hB:B<=w.heap.size) (hn:n<2):
  Calls prog 117 #[.slice A n c] w (adU w s):=by
 obtain⟨i0,hi,hz0,hz1,hz2⟩:=asM BF;refine gq3 (h.below ((aoa B w).alloc hB (.cells #[] 9))) (adV s) (qB w 9 1) fun HH H1 sD=>?_;have fB:=ah (show 0+n<=maxLen by unfold maxLen;omega)
 have HL2:=ah (show(0+n)*16<=140737488355328 by omega)
 have jT:=ah (Gr.bJ.small (s:=s) (by omega))
 have HL:=ah hl;have Df:(n:Int)<2:=by omega
 have t2:decide ((n:Int)<2)=true:=aei Df;clear h hn hl;go_enter func117,ntmps117;go_wp2_with (at_builtin;refine DI (w.alloc (.cells #[] 9)) rfl (.tmp 12) (.tmp 13) 34 rfl w.heap.size 9 i0 (.string ⟨#[]⟩) 1 16 ar0 hi hz0 hz1 hz2 rfl (by decide) (.slice (some ⟨w.heap.size,0,none⟩) 0 0) 0 [] rfl sD.out B A n c (s.map ST) rfl HH.out H1.out fB.out HL2.out (by simp) ?_)
 intro v9 w9 aF aO bI;obtain⟨A9,c9,rfl⟩:=aH aF;have oP:=ah aF;have cZ:=ah (((aoa w.heap.size w).alloc (aej _) (.cells #[] 9)).grown aO (by simp) (fun j e=>by cases e;exact aej _))
 clear aF aO bI;go_wp2;go_ret;exact⟨A9,c9,n,s,rfl,HL.out,oP.out,jT.out,cZ.out⟩
def Wi: ∀l:List (List UInt8),(Gr.dedup l).length<=l.length
 |[]=>aej _
 |a :: r=>by
  have:=Wi r;rw[Gr.dedup]
  split<;>simp only[ae7]<;>omega
structure Ba (w2:World) (a b:List (List UInt8)) (i j:Nat) (out:List (List UInt8)) (A:Option Addr) (c m:Nat) (V:World):Prop where
 le:m<=i+j
 len:out.length=m
 own:V.ownsRow w2.heap.size 9 1 (.slice A m c) m (out.map ST)
 mrg:Gr.kP a b i j out
 bel:Below w2.heap.size w2 V
def Ba.add {w2 V V':World} {a b out:List (List UInt8)} {i j i' j' m c c':Nat} {A A':Option Addr} {x:List UInt8} {z:ByteArray} (h:Ba w2 a b i j out A c m V) (hz:(⟨x.toArray⟩:ByteArray)=z) (hm:Gr.kP a b i' j' (out++[x])) (hle:m+1<=i'+j') (ho:V'.ownsRow w2.heap.size 9 1 (.slice A' (m+1) c') (m+1) (out.map ST++[.string z])) (hb:Below w2.heap.size V V'):Ba w2 a b i' j' (out++[x]) A' c' (m+1) V':=
 ⟨hle,by rw[aeo,h.len];rfl,by rw[afg,aps,ST,hz];exact ho,hm,h.bel.trans hb⟩
def Ba.below {w2 V V':World} {a b out:List (List UInt8)} {i j m c:Nat} {A:Option Addr} (h:Ba w2 a b i j out A c m V) (hb:Below V.heap.size V V'):Ba w2 a b i j out A c m V':=
 ⟨h.le,h.len,eu h.own (bV hb none) (fun g c t fz e=>by cases e),h.mrg,h.bel.trans (hb.mono h.bel.size)⟩
def QF {W:World} {B la i:Nat} {A:Option Addr} {xa:List (List UInt8)} (h:Reads W B 1 A la (xa.map ST)) (hi:i<la): ∃pa oa x z,A=some ⟨pa,oa,none⟩/\W.cell? ⟨pa,oa+i,none⟩=some (.string z)/\(⟨x.toArray⟩:ByteArray)=z/\xa[i]?=some x:=by
 obtain⟨p,o,u,e,-,hx,hp⟩:=h.cell hi;rw[aeY]at hx;obtain⟨x,hx2,rfl⟩:=afr.1 hx;exact⟨p,o,x,_,e,hp,rfl,hx2⟩
def amr: ∀(m B:Nat) (A:Option Addr) (c n:Nat) (s:List (List UInt8)) (w:World),n<=m->Reads w B 1 A n (s.map ST)->s.length=n->B<=w.heap.size->n<=c->n<=1073741800->
  Calls prog 117 #[.slice A n c] w (adU w s):=by
 intro m
 induction m with
 |zero=>
  intro B A c n s w hm h hl hB hc hn;exact adW B A c n s w h hl hB (by omega)
 |succ m ih=>
 intro B A c n s w hm h hl hB hc hn;by_cases h2:n<2
 ·exact adW B A c n s w h hl hB h2
 obtain⟨b,o,rfl,-,-⟩:=h.2 (by omega)
 obtain⟨q,hq⟩:=aj (n / 2);have hq1:q<=n:=by omega
 have hcq: ¬c=q:=by omega
 have hq0: ¬q=0:=by omega
 have hqI:(n:Int).tdiv 2=(q:Int):=by rw[<-hq];exact(arP n 2).symm
 have apT:(q:Int)<=n:=by omega
 have apU:(n:Int)<=c:=by omega
 have apV:(q:Int)<=c:=by omega
 have tq:((q:Int)).toNat=q:=by omega
 have Df:(2:Int)<=n:=by omega
 have hnB:(n:Int)<=1073741800:=by omega
 have t2:decide ((n:Int)<2)=false:=dF (by omega)
 have agT:=ih B (some ⟨b,o,none⟩) c q (s.take q) w (by omega) (by rw[aq5];exact h.head hq1) (by rw[afo];omega) hB (by omega) (by omega)
 have agU:=fun(V:World) (hb:Below w.heap.size w V)=>ih B (some ⟨b,o+q,none⟩) (c - q) (n - q) (s.drop q) V (by omega) (by rw[List.map_drop];exact(h.below (hb.mono hB)).tail hq1) (by rw[ae1];omega) (aep hB hb.size) (by omega) (by omega)
 have lu:=ah agT;have HC2:=ah agU;have xu:=ah (show∀x,x∈s↔x∈s.take q\/x∈s.drop q from fun x=>by conv=>lhs;rw[<-afz q s];rw[afq])
 have bT:=ah hl;clear ih agT agU h hm hl hq h2 hc hn hB;go_enter func117,ntmps117;go_wp2_with fail;refine lu.mono ?_;rintro e w1 ⟨A1,c1,la,xa,rfl,hla,oa,sa,b1⟩;have HA:=ah (And.intro hla (And.intro oa (And.intro sa b1)));clear hla oa sa b1;go_wp2_with fail;refine(HC2.out w1 HA.out.2.2.2).mono ?_;rintro e w2 ⟨A2,c2,lb,xb,rfl,hlb,ob,sb,b2⟩;have hla:la<=q:=by rw[<-HA.out.1,HA.out.2.2.1.length];exact aep (Wi _) (by rw[afo];omega)
 have Zl:lb<=n - q:=by rw[<-hlb,sb.length];exact aep (Wi _) (by rw[ae1,bT.out];omega)
 have hab:la+lb<=1073741800:=by omega
 have HB2:=ah (HA.out.2.2.2.trans (b2.mono HA.out.2.2.2.size));have ql:=ah (show Reads w2 w2.heap.size 1 A1 la (xa.map ST) from((Reads.dZ HA.out.2.1).below b2).more b2.size)
 have OE:=ah (show Reads w2 w2.heap.size 1 A2 lb (xb.map ST) from Reads.dZ ob)
 have J8:=ah (And.intro HA.out.1 hlb);have sG:=ah (And.intro HA.out.2.2.1 sb);have jc:=ah (show Ba w2 xa xb 0 0 [] (some ⟨w2.heap.size,0,none⟩) 0 0 (w2.alloc (.cells #[] 9)) from⟨aej _,rfl,qB w2 9 1,Gr.kP.start _ _,(aoa _ w2).alloc (aej _) _⟩)
 clear hla Zl hlb ob sb b2 lu HC2 HA hqI apT apU apV tq Df hnB t2 hq1 hcq hq0;go_wp2_with fail
 go_loopg [5,6,7] (la+lb) (fun g v x y wr=> ∃(i j m:Nat) (A':Option Addr) (c':Nat) (out:List (List UInt8)),v=.slice A' m c'/\x=.int .i64 i/\y=.int .i64 j/\i+j+g=la+lb/\i<=la/\j<=lb/\Ba w2 xa xb i j out A' c' m wr)
 case atStart=>exact⟨0,0,0,_,_,[],rfl,rfl,rfl,by omega,by omega,by omega,jc.out⟩
 obtain⟨i,j,m,A',c',out,rfl,rfl,rfl,hk,hil,hjl,hst⟩:=hrel;have HST:=ah hst;clear hst jc;cases gk with
 |zero=>
  obtain rfl:i=la:=by omega
  obtain rfl:j=lb:=by omega
  have hm:=HST.mrg;have hla:=J8.out.1;have hlb:=J8.out.2;have hd:Gr.bJ s out:=Gr.kP.done (a:=xa) (b:=xb) (by rw[hla,hlb];exact hm) (fun x=>by rw[sG.out.1.2 x,sG.out.2.2 x];exact xu.out x)
  have HD:=ah hd;clear hk hil hjl hd hm hla hlb;go_wp2;go_ret;exact⟨A',c',m,out,rfl,HST.len,own_base HST.own HB2.size,HD.out,HB2.trans (HST.bel.mono HB2.size)⟩
 |succ g=>
  have HK:=ah hk;have hij:i<la\/j<lb:=by omega
  have hlI:(la:Int)<=1073741800:=by omega
  have MG:(lb:Int)<=1073741800:=by omega
  have OG:=ah (show Below w2.heap.size w2 wr from HST.bel)
  have hc:(i<la/\j=lb)\/(i=la/\j<lb)\/(i<la/\j<lb):=by omega
  have Me:=HST.le;have ar9:(m:Int)<=1073741800:=by omega
  refine Or.elim hc ?c1 (fun h=>Or.elim h ?c2 ?c3)
  case' c1=>
   rintro⟨h1,rfl⟩;have OH:(i:Int)<la:=by omega
   have t1:decide ((i:Int)<la)=true:=aei OH;have t3:((j:Int) ==(j:Int))=true:=by simp
   obtain⟨pa,oa,x,z,rfl,hp,hz,hx⟩:=QF (ql.below OG.out) h1;have hm:=HST.mrg.step sG.out.1.1 hx (fun y hy=>by rw[<-J8.out.2,arD]at hy;cases hy)
   have HM:=ah (show(out.getLast?=some x->Gr.kP xa xb (i+1) j out)/\(out.getLast?≠some x->Gr.kP xa xb (i+1) j (out++[x])) from hm)
   obtain⟨i',hi'⟩:=aj (i+1);obtain⟨j',hj'⟩:=aj j;rw[hi',hj']at HM;have HN:=ah (show i'+j'+g=la+j/\i'<=la/\j'<=j/\m+1<=i'+j' by omega)
   have HI:=ah (show i+1=i'/\j=j' from⟨hi',hj'⟩)
   clear h1 hx hm hi' hj'
  case' c2=>
   rintro⟨rfl,h1⟩;have OH:(j:Int)<lb:=by omega
   have t1:decide ((i:Int)<(i:Int))=false:=dF (by omega)
   have t2:decide ((j:Int)<lb)=true:=aei OH;have t3:((j:Int) ==(lb:Int))=false:=aek.2 (by omega)
   obtain⟨pa,oa,x,z,rfl,hp,hz,hx⟩:=QF (OE.below OG.out) h1;have hm:=HST.mrg.symm.step sG.out.2.1 hx (fun y hy=>by rw[<-J8.out.1,arD]at hy;cases hy)
   have HM:=ah (show(out.getLast?=some x->Gr.kP xa xb i (j+1) out)/\(out.getLast?≠some x->Gr.kP xa xb i (j+1) (out++[x])) from⟨fun h=>(hm.1 h).symm,fun h=>(hm.2 h).symm⟩)
   obtain⟨i',hi'⟩:=aj i;obtain⟨j',hj'⟩:=aj (j+1);have HI:=ah (show i=i'/\j+1=j' from⟨hi',hj'⟩)
   rw[hi',hj']at HM;have HN:=ah (show i'+j'+g=i+lb/\i'<=i/\j'<=lb/\m+1<=i'+j' by omega)
   clear h1 hx hm hi' hj'
  case' c3=>
   rintro⟨h1,h2⟩;have OH:(i:Int)<la:=by omega
   have h2I:(j:Int)<lb:=by omega
   have t1:decide ((i:Int)<la)=true:=aei OH;have t2:decide ((j:Int)<lb)=true:=aei h2I;have t3:((j:Int) ==(lb:Int))=false:=aek.2 (by omega)
   obtain⟨pa,oa,xx,za,rfl,hp,hz,hx⟩:=QF (ql.below OG.out) h1;obtain⟨pb,ob,xy,zb,rfl,hpb,hzb,hxb⟩:=QF (OE.below OG.out) h2;obtain⟨b1,hb1⟩:=aj (Op.bytesLess za.toList zb.toList);obtain⟨b2,hb2⟩:=aj (za.toList == zb.toList);have hb:decide (xx<=xy)=(b1 || b2):=by rw[<-hb1,<-hb2,IQ,<-hz,<-hzb,zV,zV]
   have Nr:=ah hb;have HX:=ah (And.intro hx (And.intro hxb (And.intro hz hzb)));have hNa:i+1+j+g=la+lb/\i+1<=la/\j<=lb/\m+1<=i+1+j:=by omega
   have hNb:i+(j+1)+g=la+lb/\i<=la/\j+1<=lb/\m+1<=i+(j+1):=by omega
   have HNA:=ah hNa;have jd:=ah hNb;clear hb hx hxb hz hzb h1 h2 hNa hNb;refine Or.elim (show(b1=true/\b2=true)\/(b1=true/\b2=false)\/(b1=false/\b2=true)\/(b1=false/\b2=false) from by cases b1<;>cases b2<;>simp) ?d1 (fun h=>Or.elim h ?d2 (fun h=>Or.elim h ?d3 ?d4))
  case' d1|d2|d3=>
   rintro⟨rfl,rfl⟩;have hm:=HST.mrg.step sG.out.1.1 HX.out.1 (Gr.adT sG.out.2.1 HX.out.2.1 (aeL Nr.out));have HM:=ah (show(out.getLast?=some xx->Gr.kP xa xb (i+1) j out)/\(out.getLast?≠some xx->Gr.kP xa xb (i+1) j (out++[xx])) from hm)
   have hz:=HX.out.2.2.1;obtain⟨i',hi'⟩:=aj (i+1);obtain⟨j',hj'⟩:=aj j;rw[hi',hj']at HM;have HN:=ah (show i'+j'+g=la+lb/\i'<=la/\j'<=lb/\m+1<=i'+j' by have:=HNA.out;omega)
   have HI:=ah (show i+1=i'/\j=j' from⟨hi',hj'⟩)
   obtain⟨x,hx⟩: ∃x,x=xx:=⟨_,rfl⟩;obtain⟨z,hzz⟩: ∃z,z=za:=⟨_,rfl⟩;subst hx hzz;clear hm hi' hj'
  case' d4=>
   rintro⟨rfl,rfl⟩;have hm:=HST.mrg.symm.step sG.out.2.1 HX.out.2.1 (Gr.adT sG.out.1.1 HX.out.1 (aq6 (List.not_le.1 (aex Nr.out))));have HM:=ah (show(out.getLast?=some xy->Gr.kP xa xb i (j+1) out)/\(out.getLast?≠some xy->Gr.kP xa xb i (j+1) (out++[xy])) from⟨fun h=>(hm.1 h).symm,fun h=>(hm.2 h).symm⟩)
   have hz:=HX.out.2.2.2;obtain⟨i',hi'⟩:=aj i;obtain⟨j',hj'⟩:=aj (j+1);have HI:=ah (show i=i'/\j+1=j' from⟨hi',hj'⟩)
   rw[hi',hj']at HM;have HN:=ah (show i'+j'+g=la+lb/\i'<=la/\j'<=lb/\m+1<=i'+j' by have:=jd.out;omega)
   obtain⟨x,hx⟩: ∃x,x=xy:=⟨_,rfl⟩;obtain⟨z,hzz⟩: ∃z,z=zb:=⟨_,rfl⟩;subst hx hzz;clear hm hi' hj'
  all_goals
   have HZ:=ah hz;clear hz hc hil hjl Me
   go_upto_region 9 with fail
   go_quiet (fail)
   go_upto_region 14 with fail
   obtain⟨W5,fU⟩:=aj (wr.drewN nq);have dQ:=ah (show Ba w2 xa xb i j out A' c' m W5 from fU▸HST.below (below_drewN (aoa _ _) nq))
   rw[fU];clear fU hp
   rcases afY m with h0|h0
   ·subst h0
    have ho:out=[]:=aeI dQ.len;have qY:=ah (HM.out.2 (by rw[ho];simp))
    clear ho;go_wp2_with (at_builtin;refine jD rfl (.tmp 84) (.tmp 86) 34 9 (.string ⟨#[]⟩) 16 ar0 BF rfl (by decide) rfl w2.heap.size (.slice A' 0 c') 0 (out.map ST) W5 rfl dQ.own (.string z) rfl rfl (by decide) dQ.bel.size ?_)
    intro v9 w9 aY bC iq aB;obtain⟨A9,c9,rfl⟩:=aH aY;have HE:=ah (dQ.add HZ.out qY.out HN.out.2.2.2 aY aB);clear aY bC iq aB;go_wp2
    go_roundg g
    case measure=>omega
    exact⟨i',j',_,A9,c9,_,rfl,int_eq (by have:=HI.out;omega),int_eq (by have:=HI.out;omega),HN.out.1,HN.out.2.1,HN.out.2.2.1,HE.out⟩
   obtain⟨m',hm'⟩: ∃m',m=m'+1:=⟨m - 1,by omega⟩
   obtain⟨y,hy⟩: ∃y,out[m']?=some y:=⟨_,aen (by rw[dQ.len];omega)⟩
   have hlast:out.getLast?=some y:=by rw[aqz,dQ.len,hm'];exact hy
   obtain⟨gb,rfl,-,hcell,-⟩:=yh dQ.own (t:=m') (by omega)
   obtain⟨zy,hzy⟩:=aj (⟨y.toArray⟩:ByteArray);rw[aeY,hy]at hcell;simp only[afX,ST,hzy]at hcell;have tm:((m:Int) == 0)=false:=aek.2 (by omega)
   have hsub:(m:Int) - 1=(m':Int):=by omega
   have pm:(0:Int)<=(m':Int):=by omega
   have tmn:((m':Int)).toNat=m':=by omega
   have asb:(m':Int)<(m:Int):=by omega
   have hm1:(1:Int)<=(m:Int):=by omega
   have hml:m<1073741824:=by omega
   have CO:=ah hml;obtain⟨bq,hbq⟩:=aj (zy.toList == z.toList);have hbx:(y == x)=bq:=by rw[<-hbq,<-hzy,<-HZ.out,zV,zV]
   cases bq with
   |true=>
    obtain rfl:y=x:=afc.1 hbx;have HE:=ah (show Ba w2 xa xb i' j' out (some ⟨gb,0,none⟩) c' m W5 from⟨aoC HN.out.2.2.2,dQ.len,dQ.own,HM.out.1 hlast,dQ.bel⟩)
    clear hlast hy hzy h0 hbx hm' hml;go_wp2
    go_roundg g
    case measure=>omega
    exact⟨i',j',_,_,c',_,rfl,int_eq (by have:=HI.out;omega),int_eq (by have:=HI.out;omega),HN.out.1,HN.out.2.1,HN.out.2.2.1,HE.out⟩
   |false=>
    have qY:=ah (HM.out.2 (by rw[hlast];intro e;cases e;simp at hbx))
    clear hlast hy hzy h0 hbx hm' hml;go_wp2_with (at_builtin;refine jD rfl (.tmp 84) (.tmp 86) 34 9 (.string ⟨#[]⟩) 16 ar0 BF rfl (by decide) rfl w2.heap.size (.slice (some ⟨gb,0,none⟩) m c') m (out.map ST) W5 rfl dQ.own (.string z) rfl rfl CO.out dQ.bel.size ?_)
    intro v9 w9 aY bC iq aB;obtain⟨A9,c9,rfl⟩:=aH aY;have HE:=ah (dQ.add HZ.out qY.out HN.out.2.2.2 aY aB);clear aY bC iq aB;go_wp2
    go_roundg g
    case measure=>omega
    exact⟨i',j',_,A9,c9,_,rfl,int_eq (by have:=HI.out;omega),int_eq (by have:=HI.out;omega),HN.out.1,HN.out.2.1,HN.out.2.2.1,HE.out⟩
def xU (s:Nat) (n:Gr.N):List (List UInt8):=if s=1 then n.labels else[]
def fO (s:Nat) (ps:List Gr.P):List (List UInt8):=if s=3 then ps.map Gr.P.key else[]
def vg (s:Nat) (r:Gr.R):List (List UInt8):=if s=2 then[r.type] else[]
def uf (s:Nat) (n:Gr.N):List (List UInt8):=xU s n++fO s n.props
def ug (s:Nat) (r:Gr.R):List (List UInt8):=vg s r++fO s r.props
def nI (s:Nat) (g:Gr.G):List (List UInt8):=g.nodes.flatMap (uf s)++g.ay.flatMap (ug s)
def flatMap_nil {α β:Type} (l:List α):l.flatMap (fun _=>([]:List β))=[]:=by induction l<;>simp_all
def agW (g:Gr.G):nI 1 g=Gr.rU g:=by
 have e1:uf 1=Gr.N.labels:=by funext n;simp[uf,xU,fO]
 have e2:ug 1=fun _=> []:=by funext n;simp[ug,vg,fO]
 rw[nI,e1,e2,flatMap_nil,afy,Gr.rU]
def agX (g:Gr.G):nI 2 g=Gr.names2 g:=by
 have e1:uf 2=fun _=> []:=by funext n;simp[uf,xU,fO]
 have e2:ug 2=fun r=> [Gr.R.type r]:=by funext n;simp[ug,vg,fO]
 rw[nI,e1,e2,flatMap_nil,agJ,Gr.names2]
 induction g.ay<;>simp_all
def agY (g:Gr.G):nI 3 g=Gr.qO g:=by
 have e1:uf 3=fun n=>n.props.map Gr.P.key:=by funext n;simp[uf,xU,fO]
 have e2:ug 3=fun n=>n.props.map Gr.P.key:=by funext n;simp[ug,vg,fO]
 rw[nI,e1,e2,Gr.qO,Gr.jr,afg,List.map_flatMap,List.map_flatMap]
def adX {α β:Type} {l:List α} {f:α->List β} {k:Nat} {a:α} (h:l[k]?=some a):((l.take k).flatMap f).length+(f a).length<=(l.flatMap f).length:=by
 rw[Qs h];simp only[aeo];omega
structure mQ (w:World) (u v:Value) (l:List (List UInt8)) (A:Option Addr) (c m:Nat) (V:World):Prop where
 box:ak V w.heap.size 26 #[u,v]
 len:l.length=m
 own:V.ownsRow (w.heap.size+1) 9 1 (.slice A m c) m (l.map ST)
 bel:Below w.heap.size w V
def mQ.below {w V V':World} {u v:Value} {l:List (List UInt8)} {A:Option Addr} {c m:Nat} (h:mQ w u v l A c m V) (hb:Below V.heap.size V V'):mQ w u v l A c m V':=
 ⟨h.box.below hb h.box.lt,h.len,eu h.own (bV hb none) (fun g c t fz e=>by cases e),h.bel.trans (hb.mono h.bel.size)⟩
def mQ.put {w V V':World} {u v:Value} {l x:List (List UInt8)} {A A':Option Addr} {c m c':Nat} {n:Nat} (h:mQ w u v l A c m V) (hx:x.length=n) (ho:V'.ownsRow (w.heap.size+1) 9 1 (.slice A' (m+n) c') (m+n) (l.map ST++x.map ST)) (hg:V.grownBy V' (Value.slice A m c).ownBlock):mQ w u v (l++x) A' c' (m+n) V':=
 ⟨h.box.grown hg (fun e=>FD h.own h.box (by decide) e.symm),by rw[aeo,h.len,hx],by rw[afg];exact ho,h.bel.grown hg h.bel.size (fun j e=>aoC (ar5 h.own j e).1)⟩
def adY {α β:Type} {l:List α} {f:α->List β} {k:Nat} {a:α} {x y:List β} (h:l[k]?=some a) (e:f a=x++y):(l.take (k+1)).flatMap f=(l.take k).flatMap f++x++y:=by
 rw[KW h,e,afu]
def Wj {s:Nat} {k:Nat} {b:Bool} (h:((s:Int) ==(k:Int))=b):(b=true->s=k)/\(b=false-> ¬s=k):=by
 subst h;exact⟨fun e=>by have:=afc.1 e;omega,fun e h=>by rw[h,beq_self_eq_true]at e;cases e⟩
def ams {W:World} {B e n c:Nat} {A:Option Addr} {xs:List Value} (h:W.ownsRow B e 1 (.slice A n c) n xs):n<=c:=by
 rcases h.2 with⟨_,h0⟩|⟨g,cap,cur,e,hg,hc,q1,q2,q3⟩
 ·omega
 cases e
 first|exact q1|exact q2|omega
def adZ {s j pn M:Nat} {b:Bool} (h1:b=true->M=pn) (h2:b=false->M=0) (hj:j=M):(b=true/\(pn:Int)<=j/\decide ((j:Int)<pn)=false)\/(b=false/\(j:Int)<pn/\decide ((j:Int)<pn)=true)\/(b=false/\(pn:Int)<=j/\decide ((j:Int)<pn)=false):=by
 cases b with
 |true=>exact .inl ⟨rfl,by have:=h1 rfl;omega,dF (by have:=h1 rfl;omega)⟩
 |false=>
  by_cases h:(j:Int)<pn
  ·exact .inr (.inl ⟨rfl,h,aei h⟩)
  exact .inr (.inr ⟨rfl,by omega,dF h⟩)
def ad1 {s j M:Nat} {ps:List Gr.P} (h1:s=3->M=ps.length) (hj:j=M):fO s (ps.take j)=fO s ps:=by
 unfold fO
 split
 ·rename_i h
  rw[hj,h1 h,ao2]
 rfl
def ad2 {s j:Nat} {ps:List Gr.P} {p:Gr.P} (h3:s=3) (hp:ps[j]?=some p):fO s (ps.take (j+1))=fO s (ps.take j)++[p.key]:=by
 unfold fO;rw[aeu h3,aeu h3,afS,hp];simp
def ad3 (s:Nat) (ps:List Gr.P):fO s (ps.take 0)=[]:=by
 unfold fO
 split<;>rfl
def keys_le (s j:Nat) (ps:List Gr.P):(fO s (ps.take j)).length<=(fO s ps).length:=by
 unfold fO
 split
 ·rw[aeP,aeP,afo]
  omega
 exact aej _
def amu:(prog.info? 9).map (fun i=>(i.zero,i.size,i.bytes))=some (some (.string ⟨#[]⟩),1,16):=by kernel_rfl
def amv (s:Nat) (B:Nat) (u:Value) (g:Gr.G) (w:World) (h:nN w B u g) (hB:B<=w.heap.size) (hlen:(nI s g).length<=1073741800):
  Calls prog 71 #[u,.int .i64 s] w fun e w'=> ∃A c out,e=.returned (.slice A (Gr.dedup (nI s g)).length c)/\Gr.bJ (nI s g) out/\
   w'.ownsRow w.heap.size 9 1 (.slice A (Gr.dedup (nI s g)).length c) (Gr.dedup (nI s g)).length (out.map ST)/\Below w.heap.size w w':=by
 have hok:=h.ok;obtain⟨An,cn,Ar,cr,rfl,hN,hR⟩:=h.ex;obtain⟨i0,hi,hz0,hz1,hz2⟩:=asM amu;obtain⟨nn,hnn⟩:=aj g.nodes.length;obtain⟨rn,hrn⟩:=aj g.ay.length;obtain⟨b1,hb1⟩:=aj ((s:Int) == 1);obtain⟨b2,hb2⟩:=aj ((s:Int) == 2);obtain⟨b3,hb3⟩:=aj ((s:Int) == 3);refine gq3 (Wj hb1) (Wj hb2) (Wj hb3) fun mF HE2 dU=>?_;have hnl:=hok.nl;have hrl:=hok.rl;rw[hnn]at hnl⊢;rw[hrn]at hrl⊢;refine gq7 hN hR hok hnn hrn hlen hB fun HN HR bF aC fH bT aN=>?_
 have jc:=ah (show mQ w (.slice An nn cn) (.slice Ar rn cr) [] (some ⟨w.heap.size+1,0,none⟩) 0 0 ((w.alloc (.cells #[.slice An nn cn,.slice Ar rn cr] 26)).alloc (.cells #[] 9)) from
  ⟨(ak.new w _ _).alloc _,rfl,by have:=qB (w.alloc (.cells #[.slice An nn cn,.slice Ar rn cr] 26)) 9 1;simpa using this,((aoa _ w).alloc (aej _) _).alloc (by simp) _⟩)
 obtain⟨W0,hW0⟩:=aj ((w.alloc (.cells #[.slice An nn cn,.slice Ar rn cr] 26)).alloc (.cells #[] 9));rw[hW0]at jc;have HW0:=ah hW0;clear h hok hN hR hnn hrn hlen hB hW0;go_enter func71,ntmps71
 go_upto_region 2 with fail
 rw[HW0.out];clear HW0;obtain⟨c0,c1⟩:=cells2 jc.box;go_wp2_with fail
 go_loopg [5,6] nn (fun q o x wr=> ∃(k:Nat) (A':Option Addr) (c' m:Nat),o=.slice A' m c'/\x=.int .i64 k/\k+q=nn/\mQ w (.slice An nn cn) (.slice Ar rn cr) ((g.nodes.take k).flatMap (uf s)) A' c' m wr)
 case atStart=>exact⟨0,_,_,_,rfl,rfl,by omega,jc.out⟩
 obtain⟨k,A',c',m,rfl,rfl,hk,hst⟩:=hrel;have HST:=ah hst;clear hst c0 c1 jc;obtain⟨c0,c1⟩:=cells2 HST.box;cases gk with
 |succ q=>
  have hkn:k<nn:=by omega
  have dW:(k:Int)<nn:=by omega
  have pk:(0:Int)<=(k:Int):=by omega
  have tk:((k:Int)).toNat=k:=by omega
  obtain⟨n,hn⟩: ∃n,g.nodes[k]?=some n:=⟨_,aen (by rw[aC.out];exact hkn)⟩
  have hBw:=HST.bel.mono aN.out;obtain⟨b,oo,Al,cl,Ap,cp,rfl,hlt,⟨d0,d1,d2⟩,r1,rp⟩:=(HN.below hBw (lT.below hBw)).node hn;have kM:=bF.ns n (aew hn);obtain⟨ln,hln⟩:=aj n.labels.length;obtain⟨pn,hpn⟩:=aj n.props.length;have hpl:=kM.pl;rw[hln]at d1 r1;rw[hpn]at d2 hpl;obtain⟨nb,hnb⟩:=aj wr.heap.size;obtain⟨WN,bM⟩:=aj (wr.alloc (.cells #[.int .i64 n.id,.slice Al ln cl,.slice Ap pn cp] 37));have hbN:Below wr.heap.size wr WN:=bM▸(aoa _ wr).alloc (aej _) _;have hkN:ak WN nb 37 #[.int .i64 n.id,.slice Al ln cl,.slice Ap pn cp]:=by rw[<-bM,<-hnb];exact ak.new _ _ _
  have hsz:=HST.bel.size;have hbB:Below B wr WN:=hbN.mono (aep aN.out hsz);refine gq9 (HST.below hbN) hkN bM hnb (r1.below hbB) (rp.below hbB (bg.below hbB)) hln hpn (aep (aep aN.out hsz) hbN.size) fun dB lK gY jd qQ zA bY iI kN=>?_;refine gq3 kM (adX (f:=uf s) hn) (adY (f:=uf s) (x:=xU s n) (y:=fO s n.props) hn rfl) fun apY OI Dq=>?_;have Zr:=ah (show(g.nodes.flatMap (uf s)).length<=1073741800 by have:=bT.out;unfold nI at this;rw[aeo]at this;omega)
  have HK:=ah hk;clear hkn hn hBw hlt kM hln hpn hnb bM hbN hkN hsz hbB r1 rp hk
  go_upto_region 6 with fail
  rw[gY.out,jd.out];clear gY jd c0 c1 d0 d1 d2;obtain⟨L,hL⟩:=aj ((g.nodes.take k).flatMap (uf s));have ase:=ah hL;rw[hL]at dB OI Dq;clear hL HST;obtain⟨d0,d1,d2⟩:=cells3 lK.out
  have hml:m+((xU s n).length+(fO s n.props).length)<=1073741800:=by
   have h1:=OI.out;have h2:=Zr.out;have h3:=dB.len;rw[show uf s n=xU s n++fO s n.props from rfl,aeo]at h1
   omega
  have CO:=ah hml;clear hml
  go_upto_if 26 with fail
  go_cut [5] (fun o wx=> ∃(A2:Option Addr) (c2 m2:Nat),o=.slice A2 m2 c2/\mQ w (.slice (some ⟨b,oo,none⟩) nn cn) (.slice Ar rn cr) (L++xU s n) A2 c2 m2 wx/\Below B WN wx/\ak wx nb 37 #[.int .i64 n.id,.slice Al ln cl,.slice Ap pn cp])
  case first=>
   cases b1 with
   |false=>
    have he:xU s n=[]:=aer (mF.out.2 rfl);have HF:=ah (show mQ w (.slice (some ⟨b,oo,none⟩) nn cn) (.slice Ar rn cr) (L++xU s n) A' c' m WN by rw[he,afy];exact dB.out)
    clear he;refine atv rfl ?_;go_wp2;go_meet;exact⟨A',c',m,rfl,HF.out,aoa _ _,lK.out⟩
   |true=>
    have he:xU s n=n.labels:=aeu (mF.out.1 rfl);have AZ:=ah (show m+ln<=maxLen/\(m+ln)*16<=140737488355328 by have:=CO.out;rw[he,bY.out]at this;unfold maxLen;omega)
    have H1:=ah (adV n.labels);have HE:=ah he;clear he;refine aty rfl ?_;go_wp2_with (at_builtin;refine DI WN rfl (.tmp 27) (.tmp 29) 34 rfl (w.heap.size+1) 9 i0 (.string ⟨#[]⟩) 1 16 ar0 hi hz0 hz1 hz2 rfl (by decide) (.slice A' m c') m (L.map ST) rfl dB.own B Al ln cl (n.labels.map ST) rfl qQ.out H1.out AZ.out.1 AZ.out.2 (apS dB.box.lt) ?_)
    intro v9 w9 aY bC iq;obtain⟨A9,c9,rfl⟩:=aH aY;have HF:=ah (dB.put bY.out aY bC);have cZ:=ah (show Below B WN w9 from(aoa B WN).grown bC kN.out (fun j e=>aep aN.out (aoC (ar5 dB.own j e).1)))
    have mP:=ah (lK.grown bC (fun e=>FD dB.own lK.out (by decide) e.symm))
    clear aY bC iq;go_wp2;go_meet;exact⟨A9,c9,m+ln,rfl,by rw[HE.out];exact HF.out,cZ.out,mP.out⟩
  obtain⟨A2,c2,m2,rfl,h2,hb2,hk2⟩:=hcut;refine gq3 h2 hb2 hk2 fun HS2 HB2 aP=>?_;obtain⟨L2,hL2⟩:=aj (L++xU s n);rw[hL2]at HS2 Dq
  have qY:=ah (show m2+(fO s n.props).length<=1073741800 by
   have h1:=HS2.len;have h2:=CO.out;have h3:=dB.len;rw[<-hL2,aeo]at h1
   omega)
  have Zt:=ah (show L2.length+(fO s n.props).length<=1073741800 by have:=qY.out;have:=HS2.len;omega)
  clear h2 hb2 hk2 hL2 d0 d1 d2;obtain⟨M,hM⟩:=aj (if s=3 then pn else 0)
  have HMD:=ah hM;have agZ:M<=1073741824:=by rw[<-hM];split<;>omega
  have wu:=ah (show b3=true->M=pn from fun e=>by rw[<-hM,aeu (dU.out.1 e)])
  have EU:=ah (show b3=false->M=0 from fun e=>by rw[<-hM,aer (dU.out.2 e)])
  clear hM;go_wp2_with fail
  go_loopg [5,8] M (fun q o x wq=> ∃(j:Nat) (A3:Option Addr) (c3 m3:Nat),o=.slice A3 m3 c3/\x=.int .i64 j/\j+q=M/\mQ w (.slice (some ⟨b,oo,none⟩) nn cn) (.slice Ar rn cr) (L2++fO s (n.props.take j)) A3 c3 m3 wq/\Below B WN wq/\ak wq nb 37 #[.int .i64 n.id,.slice Al ln cl,.slice Ap pn cp])
  case atStart=>exact⟨0,A2,c2,m2,rfl,rfl,by omega,by rw[ad3,afy];exact HS2.out,HB2.out,aP.out⟩
  obtain⟨j,A3,c3,m3,rfl,rfl,hj,h3,OJ,hk3⟩:=hrel;refine gq4 h3 OJ hk3 hj fun bK HB3 dX HJ=>?_;clear h3 OJ hk3 HS2 HB2 aP;obtain⟨d0,d1,d2⟩:=cells3 dX.out;cases gk with
  |zero=>
   have hbb:=adZ (s:=s) wu.out EU.out hj;have hkd:=ad1 (s:=s) (ps:=n.props) (fun e=>by rw[iI.out];exact wu.out (by cases b3 with|true=>rfl|false=>exact absurd e (dU.out.2 rfl))) hj
   have HF:=ah (show mQ w (.slice (some ⟨b,oo,none⟩) nn cn) (.slice Ar rn cr) ((g.nodes.take (k+1)).flatMap (uf s)) A3 c3 m3 wr by rw[Dq.out,<-hkd];exact bK.out)
   obtain⟨c0,c1⟩:=cells2 HF.box;clear hj hkd
   rcases hbb with⟨rfl,oH,tj⟩|⟨rfl,oH,tj⟩|⟨rfl,oH,tj⟩
   all_goals
    go_wp2
    go_roundg q
    case measure=>omega
    exact⟨k+1,A3,c3,m3,rfl,int_eq (by omega),by have:=HK.out;omega,HF.out⟩
  |succ q2=>
   cases b3 with
   |false=>have:=EU.out rfl;omega
   |true=>
    have Zu:=wu.out rfl;have hkn:j<pn:=by omega
    have oH:(j:Int)<pn:=by omega
    have tj:decide ((j:Int)<pn)=true:=aei oH;have pj:(0:Int)<=(j:Int):=by omega
    have tjn:((j:Int)).toNat=j:=by omega
    obtain⟨p,hp⟩: ∃p,n.props[j]?=some p:=⟨_,aen (by rw[iI.out];exact hkn)⟩
    obtain⟨b',o',lI,jY,lJ,jZ,rfl,hlt,⟨p0,-,-,-,-,-⟩,-,-⟩:=(zA.below HB3.out (bg.below HB3.out)).prop hp;simp only[ST]at p0;obtain⟨z,hz⟩:=aj (⟨p.key.toArray⟩:ByteArray);rw[hz]at p0
    have xP:m3<1073741824:=by
     have h1:=bK.len;have h2:=qY.out;have h3:=Zt.out;have h4:=keys_le s j n.props;rw[aeo]at h1;omega
    have Zv:=ah xP;obtain⟨L3,hL3⟩:=aj (L2++fO s (n.props.take j));rw[hL3]at bK;refine gq3 hL3 (ad2 (dU.out.1 rfl) hp) hz fun rZ Zw HZ=>?_;clear Zu hkn hp hlt hz xP hj hL3;go_wp2_with (at_builtin;refine jD rfl (.tmp 42) (.tmp 49) 34 9 (.string ⟨#[]⟩) 16 ar0 BF rfl (by decide) rfl (w.heap.size+1) (.slice A3 m3 c3) m3 (L3.map ST) wr rfl bK.own (.string z) rfl rfl Zv.out (apS bK.box.lt) ?_)
    intro v9 w9 aY bC iq aB;obtain⟨A9,c9,rfl⟩:=aH aY
    have HF:=ah (show mQ w (.slice (some ⟨b,oo,none⟩) nn cn) (.slice Ar rn cr) (L2++fO s (n.props.take (j+1))) A9 c9 (m3+1) w9 by
     rw[Zw.out,<-afu,rZ.out]
     exact bK.put (x:=[p.key]) rfl (by rw[aps,ST,HZ.out];exact aY) bC)
    have cZ:=ah (HB3.trans ((aoa B wr).grown bC (aep kN.out HB3.size) (fun j e=>aep aN.out (aoC (ar5 bK.own j e).1))))
    have mP:=ah (dX.grown bC (fun e=>FD bK.own dX.out (by decide) e.symm))
    clear aY bC iq aB p0 d0 d1 d2;go_wp2
    go_roundg q2
    case measure=>omega
    exact⟨j+1,A9,c9,m3+1,rfl,int_eq (by omega),by have:=HJ.out;omega,HF.out,cZ.out,mP.out⟩
 |zero=>
  obtain rfl:nn=k:=by omega
  have hf:g.nodes.take nn=g.nodes:=aeG (by rw[aC.out];exact aej _)
  obtain⟨LN,hL⟩:=aj (g.nodes.flatMap (uf s));rw[hf,hL]at HST;have uI:=ah hL;have Zr:=ah (show LN.length+(g.ay.flatMap (ug s)).length<=1073741800 by have:=bT.out;unfold nI at this;rw[aeo,hL]at this;exact this)
  clear hk hf hL;go_wp2_with fail
  go_loopg [5,9] rn (fun q o x wr=> ∃(k:Nat) (A':Option Addr) (c' m:Nat),o=.slice A' m c'/\x=.int .i64 k/\k+q=rn/\mQ w (.slice An nn cn) (.slice Ar rn cr) (LN ++(g.ay.take k).flatMap (ug s)) A' c' m wr)
  case atStart=>exact⟨0,A',c',m,rfl,rfl,by omega,by simpa using HST.out⟩
  obtain⟨k,A',c',m,rfl,rfl,hk,hst⟩:=hrel;have iJ:=ah hst;clear hst c0 c1;obtain⟨c0,c1⟩:=cells2 iJ.box;cases gk with
  |succ q=>
   have hkn:k<rn:=by omega
   have dW:(k:Int)<rn:=by omega
   have pk:(0:Int)<=(k:Int):=by omega
   have tk:((k:Int)).toNat=k:=by omega
   obtain⟨n,hn⟩: ∃n,g.ay[k]?=some n:=⟨_,aen (by rw[fH.out];exact hkn)⟩
   have hBw:=iJ.bel.mono aN.out;obtain⟨b,oo,Ap,cp,rfl,hlt,⟨d0,d1,d2,d3,d4⟩,rp⟩:=(HR.below hBw (lU.below hBw)).rel hn;have kM:=bF.rs n (aew hn);simp only[ST]at d1;obtain⟨zt,aK⟩:=aj (⟨n.type.toArray⟩:ByteArray);obtain⟨pn,hpn⟩:=aj n.props.length;have hpl:=kM.pl;rw[aK]at d1;rw[hpn]at d4 hpl;obtain⟨nb,hnb⟩:=aj wr.heap.size;obtain⟨WN,bM⟩:=aj (wr.alloc (.cells #[.int .i64 n.id,.string zt,.int .i64 n.src,.int .i64 n.dst,.slice Ap pn cp] 74));have hbN:Below wr.heap.size wr WN:=bM▸(aoa _ wr).alloc (aej _) _;have hkN:ak WN nb 74 #[.int .i64 n.id,.string zt,.int .i64 n.src,.int .i64 n.dst,.slice Ap pn cp]:=by rw[<-bM,<-hnb];exact ak.new _ _ _
   have hsz:=iJ.bel.size;have hbB:Below B wr WN:=hbN.mono (aep aN.out hsz);refine gq9 (iJ.below hbN) hkN bM hnb (rp.below hbB (bg.below hbB)) aK hpn (aep (aep aN.out hsz) hbN.size) kM fun dB lK gY jd zA bY iI kN apY=>?_;refine gq3 (adX (f:=ug s) hn) (adY (f:=ug s) (x:=vg s n) (y:=fO s n.props) hn rfl) hk fun OI Dq HK=>?_;clear hkn hn hBw hlt kM aK hpn hnb bM hbN hkN hsz hbB rp hk
   go_upto_region 16 with fail
   rw[gY.out,jd.out];clear gY jd c0 c1 d0 d1 d2 d3 d4;obtain⟨LR,hLR⟩:=aj ((g.ay.take k).flatMap (ug s));rw[hLR]at dB OI Dq;obtain⟨L,hL⟩:=aj (LN++LR);rw[hL]at dB;have HLq:=ah hL;have Dq:=ah (show LN ++(g.ay.take (k+1)).flatMap (ug s)=L++vg s n++fO s n.props by rw[Dq.out,<-hL,<-afu,<-afu])
   clear hL hLR iJ;obtain⟨d0,d1,d2,d3,d4⟩:=cells5 lK.out
   have hml:m+((vg s n).length+(fO s n.props).length)<=1073741800:=by
    have h1:=OI.out;have h2:=Zr.out;have h3:=dB.len;rw[<-HLq.out,aeo]at h3;rw[show ug s n=vg s n++fO s n.props from rfl,aeo]at h1
    omega
   have CO:=ah hml;clear hml
   go_upto_if 64 with fail
   go_cut [5] (fun o wx=> ∃(A2:Option Addr) (c2 m2:Nat),o=.slice A2 m2 c2/\mQ w (.slice An nn cn) (.slice (some ⟨b,oo,none⟩) rn cr) (L++vg s n) A2 c2 m2 wx/\Below B WN wx/\ak wx nb 74 #[.int .i64 n.id,.string zt,.int .i64 n.src,.int .i64 n.dst,.slice Ap pn cp])
   case first=>
    cases b2 with
    |false=>
     have he:vg s n=[]:=aer (HE2.out.2 rfl);have HF:=ah (show mQ w (.slice An nn cn) (.slice (some ⟨b,oo,none⟩) rn cr) (L++vg s n) A' c' m WN by rw[he,afy];exact dB.out)
     clear he;refine atv rfl ?_;go_wp2;go_meet;exact⟨A',c',m,rfl,HF.out,aoa _ _,lK.out⟩
    |true=>
     have he:vg s n=[n.type]:=aeu (HE2.out.1 rfl);have AZ:=ah (show m<1073741824 by have:=CO.out;omega)
     have HE:=ah he;clear he;refine aty rfl ?_;go_wp2_with (at_builtin;refine jD rfl (.tmp 65) (.tmp 68) 34 9 (.string ⟨#[]⟩) 16 ar0 BF rfl (by decide) rfl (w.heap.size+1) (.slice A' m c') m (L.map ST) WN rfl dB.own (.string zt) rfl rfl AZ.out (apS dB.box.lt) ?_)
     intro v9 w9 aY bC iq aB;obtain⟨A9,c9,rfl⟩:=aH aY
     have HF:=ah (show mQ w (.slice An nn cn) (.slice (some ⟨b,oo,none⟩) rn cr) (L++vg s n) A9 c9 (m+1) w9 by
      rw[HE.out]
      exact dB.put (x:=[n.type]) rfl (by rw[aps,ST,bY.out];exact aY) bC)
     have cZ:=ah (show Below B WN w9 from(aoa B WN).grown bC kN.out (fun j e=>aep aN.out (aoC (ar5 dB.own j e).1)))
     have mP:=ah (lK.grown bC (fun e=>FD dB.own lK.out (by decide) e.symm))
     clear aY bC iq aB;go_wp2;go_meet;exact⟨A9,c9,m+1,rfl,HF.out,cZ.out,mP.out⟩
   obtain⟨A2,c2,m2,rfl,h2,hb2,hk2⟩:=hcut;refine gq3 h2 hb2 hk2 fun HS2 HB2 aP=>?_;obtain⟨L2,hL2⟩:=aj (L++vg s n);rw[hL2]at HS2 Dq
   have qY:=ah (show m2+(fO s n.props).length<=1073741800 by
    have h1:=HS2.len;have h2:=CO.out;have h3:=dB.len;rw[<-hL2,aeo]at h1
    omega)
   have Zt:=ah (show L2.length+(fO s n.props).length<=1073741800 by have:=qY.out;have:=HS2.len;omega)
   clear h2 hb2 hk2 hL2 d0 d1 d2 d3 d4;obtain⟨M,hM⟩:=aj (if s=3 then pn else 0)
   have HMD:=ah hM;have agZ:M<=1073741824:=by rw[<-hM];split<;>omega
   have wu:=ah (show b3=true->M=pn from fun e=>by rw[<-hM,aeu (dU.out.1 e)])
   have EU:=ah (show b3=false->M=0 from fun e=>by rw[<-hM,aer (dU.out.2 e)])
   clear hM;go_wp2_with fail
   go_loopg [5,11] M (fun q o x wq=> ∃(j:Nat) (A3:Option Addr) (c3 m3:Nat),o=.slice A3 m3 c3/\x=.int .i64 j/\j+q=M/\mQ w (.slice An nn cn) (.slice (some ⟨b,oo,none⟩) rn cr) (L2++fO s (n.props.take j)) A3 c3 m3 wq/\Below B WN wq/\ak wq nb 74 #[.int .i64 n.id,.string zt,.int .i64 n.src,.int .i64 n.dst,.slice Ap pn cp])
   case atStart=>exact⟨0,A2,c2,m2,rfl,rfl,by omega,by rw[ad3,afy];exact HS2.out,HB2.out,aP.out⟩
   obtain⟨j,A3,c3,m3,rfl,rfl,hj,h3,OJ,hk3⟩:=hrel;refine gq4 h3 OJ hk3 hj fun bK HB3 dX HJ=>?_;clear h3 OJ hk3 HS2 HB2 aP;obtain⟨d0,d1,d2,d3,d4⟩:=cells5 dX.out;cases gk with
   |zero=>
    have hbb:=adZ (s:=s) wu.out EU.out hj;have hkd:=ad1 (s:=s) (ps:=n.props) (fun e=>by rw[iI.out];exact wu.out (by cases b3 with|true=>rfl|false=>exact absurd e (dU.out.2 rfl))) hj
    have HF:=ah (show mQ w (.slice An nn cn) (.slice (some ⟨b,oo,none⟩) rn cr) (LN ++(g.ay.take (k+1)).flatMap (ug s)) A3 c3 m3 wr by rw[Dq.out,<-hkd];exact bK.out)
    obtain⟨c0,c1⟩:=cells2 HF.box;clear hj hkd
    rcases hbb with⟨rfl,oH,tj⟩|⟨rfl,oH,tj⟩|⟨rfl,oH,tj⟩
    all_goals
     go_wp2
     go_roundg q
     case measure=>omega
     exact⟨k+1,A3,c3,m3,rfl,int_eq (by omega),by have:=HK.out;omega,HF.out⟩
   |succ q2=>
    cases b3 with
    |false=>have:=EU.out rfl;omega
    |true=>
     have Zu:=wu.out rfl;have hkn:j<pn:=by omega
     have oH:(j:Int)<pn:=by omega
     have tj:decide ((j:Int)<pn)=true:=aei oH;have pj:(0:Int)<=(j:Int):=by omega
     have tjn:((j:Int)).toNat=j:=by omega
     obtain⟨p,hp⟩: ∃p,n.props[j]?=some p:=⟨_,aen (by rw[iI.out];exact hkn)⟩
     obtain⟨b',o',lI,jY,lJ,jZ,rfl,hlt,⟨p0,-,-,-,-,-⟩,-,-⟩:=(zA.below HB3.out (bg.below HB3.out)).prop hp;simp only[ST]at p0;obtain⟨z,hz⟩:=aj (⟨p.key.toArray⟩:ByteArray);rw[hz]at p0
     have xP:m3<1073741824:=by
      have h1:=bK.len;have h2:=qY.out;have h3:=Zt.out;have h4:=keys_le s j n.props;rw[aeo]at h1;omega
     have Zv:=ah xP;obtain⟨L3,hL3⟩:=aj (L2++fO s (n.props.take j));rw[hL3]at bK;refine gq3 hL3 (ad2 (dU.out.1 rfl) hp) hz fun rZ Zw HZ=>?_;clear Zu hkn hp hlt hz xP hj hL3;go_wp2_with (at_builtin;refine jD rfl (.tmp 81) (.tmp 88) 34 9 (.string ⟨#[]⟩) 16 ar0 BF rfl (by decide) rfl (w.heap.size+1) (.slice A3 m3 c3) m3 (L3.map ST) wr rfl bK.own (.string z) rfl rfl Zv.out (apS bK.box.lt) ?_)
     intro v9 w9 aY bC iq aB;obtain⟨A9,c9,rfl⟩:=aH aY
     have HF:=ah (show mQ w (.slice An nn cn) (.slice (some ⟨b,oo,none⟩) rn cr) (L2++fO s (n.props.take (j+1))) A9 c9 (m3+1) w9 by
      rw[Zw.out,<-afu,rZ.out]
      exact bK.put (x:=[p.key]) rfl (by rw[aps,ST,HZ.out];exact aY) bC)
     have cZ:=ah (HB3.trans ((aoa B wr).grown bC (aep kN.out HB3.size) (fun j e=>aep aN.out (aoC (ar5 bK.own j e).1))))
     have mP:=ah (dX.grown bC (fun e=>FD bK.own dX.out (by decide) e.symm))
     clear aY bC iq aB p0 d0 d1 d2 d3 d4;go_wp2
     go_roundg q2
     case measure=>omega
     exact⟨j+1,A9,c9,m3+1,rfl,int_eq (by omega),by have:=HJ.out;omega,HF.out,cZ.out,mP.out⟩
  |zero=>
   obtain rfl:rn=k:=by omega
   have hf:g.ay.take rn=g.ay:=aeG (by rw[fH.out];exact aej _)
   rw[hf,<-uI.out]at iJ;have hst:mQ w (.slice An nn cn) (.slice Ar rn cr) (nI s g) A' c' m wr:=iJ.out;obtain⟨AL,Zx⟩:=aj (nI s g);rw[Zx]at hst bT;have fZ:=ah Zx;have hcall:=amr m wr.heap.size A' c' m AL wr (aej _) (Reads.dZ hst.own) hst.len (aej _) (ams hst.own) (hst.len▸bT.out);have Af:=ah hcall;have Zy:=ah hst;clear hk hf hst hcall Zx iJ;go_wp2_with fail;refine Af.mono ?_;rintro e w9 ⟨A9,c9,m9,out,rfl,zD,aY,hs9,aB⟩;have hm9:m9=(Gr.dedup AL).length:=by rw[<-zD];exact hs9.length
   rw[hm9]at aY⊢;have HM9:=ah (And.intro hs9 (own_base aY Zy.bel.size));have cZ:=ah (Zy.bel.trans (aB.mono Zy.bel.size));clear zD hs9 aB aY hm9;go_wp2;go_ret;exact⟨A9,c9,out,by rw[fZ.out];rfl,by rw[fZ.out];exact HM9.out.1,by rw[fZ.out];exact HM9.out.2,cZ.out⟩
def Wn (s:Nat) (B:Nat) (u:Value) (g:Gr.G) (w:World) (h:nN w B u g) (hB:B<=w.heap.size) (hlen:(nI s g).length<=1073741800):
  Calls prog 71 #[u,.int .i64 s] w fun e w'=> ∃A c,e=.returned (.slice A (Gr.dedup (nI s g)).length c)/\Below w.heap.size w w':=
 (amv s B u g w h hB hlen).mono fun _ _ ⟨A,c,_,h1,_,_,h4⟩=>⟨A,c,h1,h4⟩
def Jd (n:Gr.N):Nat:=if Gr.wJ n.labels≠0 then Gr.wJ n.labels else Gr.dJ n.props
def amw (B:Nat) (p:Gr.N) (Al Ap:Option Addr) (cl cp:Nat) (w:World) (ra:Reads w B 1 Al p.labels.length (p.labels.map ST)) (rp:dD w B 6 (bg w B) Ap p.props) (hB:B<=w.heap.size) (hok:QO p):
  Calls prog 69 #[.agg #[.int .i64 p.id,.slice Al p.labels.length cl,.slice Ap p.props.length cp]] w fun e w'=>e=.returned (.int .i64 (Jd p:Nat))/\Below w.heap.size w w':=by
 obtain⟨R,hR⟩:=aj (Jd p);rw[hR];unfold Jd at hR;obtain⟨n,hn⟩:=aj p.labels.length;obtain⟨pn,hpn⟩:=aj p.props.length;have hl:n<=1073741824:=hn▸hok.ll;have JQ:Gr.wJ p.labels=if 8<n then 63 else(Gr.first Gr.labelWrong id none p.labels 0).1:=by unfold Gr.wJ;rw[hn]
 have Zz:=fun(X:World) (hb:Below w.heap.size w X)=>ac7 B Ap cp p.props X (rp.below (hb.mono hB) (bg.below (hb.mono hB))) (aep hB hb.size) hok.pl hok.ps
 rw[hn]at ra⊢;rw[hpn]at Zz⊢;refine gq8 ra hok.ls hn rG Zz JQ hR hB fun HH HS HN HU eU MI HR0 aN=>?_;have hb0:Below w.heap.size w (w.alloc (.cells #[.int .i64 p.id,.slice Al n cl,.slice Ap pn cp] 37)):=(aoa _ w).alloc (aej _) _;have HB0:=ah hb0;have hk0:=ak.new w 37 #[.int .i64 p.id,.slice Al n cl,.slice Ap pn cp];have zH:=ah hk0;clear ra rp hok hn hpn Zz JQ hR hB hb0 hk0;by_cases h8:8<n
 ·have hr:R=63:=by rw[<-HR0.out,MI.out,aeu h8];rfl
  have yP:(8:Int)<n:=by omega
  have t8:decide ((8:Int)<n)=true:=aei yP;have HRR:=ah hr;clear hr h8;go_enter func69,ntmps69;go_wp2;go_ret;exact⟨by rw[HRR.out];rfl,HB0.out⟩
 obtain⟨RL,hRL⟩:=aj ((Gr.first Gr.labelWrong id none p.labels 0).1);have HR:=ah hRL;have HE:=ah (show R=if RL≠0 then RL else Gr.dJ p.props by rw[<-HR0.out,MI.out,aer h8,hRL])
 have yP:(n:Int)<=8:=by omega
 have t8:decide ((8:Int)<n)=false:=dF (by omega)
 clear h8 hRL;go_enter func69,ntmps69;go_wp2_with fail
 go_loopg [3] n (fun g x wr=> ∃k:Nat,x=.int .i64 k/\k+g=n/\Below w.heap.size w wr/\ak wr w.heap.size 37 #[.int .i64 p.id,.slice Al n cl,.slice Ap pn cp]/\Hid (∀j a,j<k->p.labels[j]?=some a->Gr.labelWrong (Gr.aQ id p.labels j) a=0))
 case atStart=>exact⟨0,rfl,by omega,HB0.out,zH.out,fun j a h=>by omega⟩
 obtain⟨k,rfl,hk,hb,hbk,hz⟩:=hrel;have HK:=ah hk;have HZ:Hid (∀j a,j<k->p.labels[j]?=some a->Gr.labelWrong (Gr.aQ id p.labels j) a=0):=hz;have HB:=ah hb;have dP:=ah hbk;obtain⟨a0,a1,a2⟩:=cells3 hbk;clear hz hb hbk HB0 zH;cases gk with
 |zero=>
  obtain rfl:k=n:=by omega
  have hr:=Qk HN.out HR.out HZ.out;have hr2:R=Gr.dJ p.props:=by rw[HE.out,hr,aer (by simp)]
  have HRR:=ah hr2;clear hk hr hr2;go_wp2_with fail;refine mq7 (eU.out _ HB.out) fun w4 hb4=>?_;have HB4:=ah (HB.trans (hb4.mono HB.size));clear hb4;go_wp2;go_ret;exact⟨by rw[HRR.out];rfl,HB4.out⟩
 |succ g=>
  have hkn:k<n:=by omega
  have dW:(k:Int)<n:=by omega
  have pk:(0:Int)<=(k:Int):=by omega
  have tk:((k:Int)).toNat=k:=by omega
  have ZA:=ah (HH.below (HB.mono aN.out));obtain⟨a,o,x,rfl,hlt,hx,hp⟩:=ZA.cell hkn;rw[aeY]at hx;obtain⟨y,hy,rfl⟩:=afr.1 hx;unfold ST at hp;obtain⟨z,hz⟩:=aj (⟨y.toArray⟩:ByteArray);rw[hz]at hp;have hzd:z.data.toList=y:=by rw[<-hz]
  have hzl:z.size<=1073741824:=by rw[aof,hzd];exact HS.out y (aew hy)
  have hcall:=IZ z wr hzl;rw[hzd]at hcall;have HY:=ah hy;have HZD:=ah hzd;obtain⟨GN,hg⟩:=aj (Gr.fD y);rw[hg]at hcall;have HC:=ah hcall;have gW:=ah hg
  have Sm:Hid (∀(X:World) (m:Nat) (q:List UInt8),Below wr.heap.size wr X->m<n->p.labels[m]?=some q->X.cell? ⟨a,o+m,none⟩=some (ST q)):=fun X m q hb hm hq=>by
   obtain⟨p',o',x',he,hl',hx',hp'⟩:=ZA.cell (k:=m) hm
   injection he with he
   injection he with he1 he2
   subst he1;subst he2;rw[aeY,hq]at hx';cases hx';exact((hb.mono (aep aN.out HB.size)).cell (by exact hl')).trans hp'
  clear hx hk hy hz hzd hzl hcall hg hlt;go_wp2_with fail;refine mq8 HC fun w1 hb1=>?_;have HB1:=ah (HB.trans (hb1.mono HB.size));have hbk1:=dP.below hb1 dP.lt;have ag3:=ah hbk1;have yG:Hid (∀(m:Nat) (q:List UInt8),m<n->p.labels[m]?=some q->w1.cell? ⟨a,o+m,none⟩=some (ST q)):=fun m q hm hq=>Sm.out w1 m q hb1 hm hq
  clear a0 a1 a2 hp;obtain⟨a0,a1,a2⟩:=cells3 hbk1;have hp:w1.cell? ⟨a,o+k,none⟩=some (.string z):=by have:=yG.out k y hkn HY.out;rw[this,<-HZD.out];rfl
  clear hbk1 hb1 Sm dP ZA;cases GN with
  |false=>
   have hr:=DU HR.out HY.out HZ.out (e:=60) (by unfold Gr.labelWrong;rw[gW.out,aeu rfl]) (by decide)
   have hr2:R=60:=by rw[HE.out,hr,aeu (by decide)]
   have HRR:=ah hr2;clear hr hr2;go_wp2;go_ret;exact⟨by rw[HRR.out];rfl,HB1.out⟩
  |true=>
   by_cases h0:k=0
   ·subst h0
    rw[agw]at hp;have hmore:=zW HY.out HZ.out (by unfold Gr.labelWrong;rw[gW.out,aer (by decide)];rfl)
    have HM:=ah hmore;clear hkn hmore
    go_upto_region 8 with fail
    go_quiet (fail)
    go_wp2_with fail
    go_roundg g
    case measure=>omega
    exact⟨1,rfl,by have:=HK.out;omega,by first|exact HB1.out|exact below_drewN HB1.out _,ag3.out,HM.out⟩
   obtain⟨m,rfl⟩: ∃m,k=m+1:=⟨k - 1,by omega⟩
   obtain⟨q,hq⟩: ∃q,p.labels[m]?=some q:=⟨_,aen (by rw[HN.out];omega)⟩
   have hp':=yG.out m q (by omega) hq
   unfold ST at hp';obtain⟨zq,nO⟩:=aj (⟨q.toArray⟩:ByteArray);have yQ:zq.toList=q:=by rw[<-nO,zV]
   rw[nO]at hp';obtain⟨b1,hb1⟩:=aj (Op.bytesLess z.toList zq.toList);obtain⟨b2,hb2⟩:=aj (z.toList == zq.toList);have hb:decide (y<=q)=(b1 || b2):=by rw[<-hb1,<-hb2,IQ,yQ,aod,HZD.out]
   have MG:(1:Int)<=((m+1:Nat):Int):=by omega
   have hm0:decide ((0:Int)<((m+1:Nat):Int))=true:=aei (by omega)
   have hm1:(m:Int)<n:=by omega
   have hsub:((m+1:Nat):Int) - 1=(m:Int):=by omega
   have MH:Gr.labelWrong (Gr.aQ id p.labels (m+1)) y=if(b1 || b2)=true then 6 else 0:=by
    have hpv:Gr.aQ id p.labels (m+1)=some q:=by show p.labels[m]?.map id=_;rw[hq];rfl
    unfold Gr.labelWrong;rw[gW.out,hpv,aer (by decide),<-hb]
    rfl
   have ag4:=ah MH
   have qR:=ah (show(b1 || b2)=true->R=6 from fun h=>by
    have:=DU HR.out HY.out HZ.out (e:=6) (by rw[ag4.out,h];rfl) (by decide)
    rw[HE.out,this,aeu (by decide)])
   clear hq hkn MH hb h0 nO yQ;cases b1 with
   |true=>
    have hr:=qR.out rfl;have HRR:=ah hr;clear hr
    go_upto_region 8 with fail
    go_quiet (fail)
    go_wp2;go_ret;exact⟨by rw[HRR.out];rfl,by first|exact HB1.out|exact below_drewN HB1.out _⟩
   |false=>
    cases b2 with
    |true=>
     have hr:=qR.out rfl;have HRR:=ah hr;clear hr
     go_upto_region 8 with fail
     go_quiet (fail)
     go_wp2;go_ret;exact⟨by rw[HRR.out];rfl,by first|exact HB1.out|exact below_drewN HB1.out _⟩
    |false=>
     have hmore:=zW HY.out HZ.out (by rw[ag4.out];rfl)
     have HM:=ah hmore;clear hmore
     go_upto_region 8 with fail
     go_quiet (fail)
     go_wp2_with fail
     go_roundg g
     case measure=>omega
     exact⟨m+1+1,int_eq (by omega),by have:=HK.out;omega,by first|exact HB1.out|exact below_drewN HB1.out _,ag3.out,HM.out⟩
end Go.Proofs.YtdijgcnlbfgkdaaGreatDoor
