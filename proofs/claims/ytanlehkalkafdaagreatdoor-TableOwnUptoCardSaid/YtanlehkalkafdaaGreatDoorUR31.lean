/- Contracts and plain laws,part 31. -/
import Derived.Test.YtanlehkalkafdaaGreatDoorUR30
set_option maxHeartbeats 64000000
set_option maxRecDepth 1000000
set_option linter.all false
namespace Go.Proofs.YtanlehkalkafdaaGreatDoor
open Go.RowKit
theorem Reads.head {W:World} {B n q b o:Nat} {xs:List Value} (h:Reads W B 1 (some ⟨b,o,none⟩) n xs) (hq:q<=n):Reads W B 1 (some ⟨b,o,none⟩) q (xs.take q):=by
 refine⟨by rw[tK,h.1];omega,fun h0=> ?_⟩
 obtain⟨b',o',e,hb,hc⟩:=h.2 (by omega)
 cases e
 exact⟨b,o,rfl,hb,fun j u hu=>hc j u (by
  rw[zQ]at hu
  split at hu
  ·exact hu
  cases hu)⟩
theorem Reads.tail {W:World} {B n q b o:Nat} {xs:List Value} (h:Reads W B 1 (some ⟨b,o,none⟩) n xs) (hq:q<=n):Reads W B 1 (some ⟨b,o+q,none⟩) (n - q) (xs.drop q):=by
 refine⟨by rw[uJ,h.1];omega,fun h0=> ?_⟩
 obtain⟨b',o',e,hb,hc⟩:=h.2 (by omega)
 cases e
 exact⟨b,o+q,rfl,hb,fun j u hu=>by
  rw[zO]at hu;have:=hc _ u hu
  rwa [<-wV]at this⟩
def SortRes (w:World) (s:List (List UInt8)) (e:Ending) (w':World):Prop:= ∃(A':Option Addr) (c' m:Nat) (out:List (List UInt8)),e=.returned (.slice A' m c')/\out.length=m/\w'.ownsRow w.heap.size 9 1 (.slice A' m c') m (out.map ST)/\Gr.Srt s out/\Below w.heap.size w w'
theorem st_cells (l:List (List UInt8)): ∀u∈l.map ST,u.oneCell'=true:=fun u hu=>by
 obtain⟨x,-,rfl⟩:=uU.1 hu;rfl
theorem refSorted_small (B:Nat) (A:Option Addr) (c n:Nat) (s:List (List UInt8)) (w:World) (h:Reads w B 1 A n (s.map ST)) (hl:s.length=n) (hB:B<=w.heap.size) (hn:n<2):
  Calls Tryz.prog 61 #[.slice A n c] w (SortRes w s):=by
 obtain⟨i0,hi,hz0,hz1,hz2⟩:=info_parts info_cloneStrs
 have HH:=ah (h.below ((Below.refl B w).alloc hB (.cells #[] 9)));have H1:=ah (st_cells s)
 have HON:=ah (own_new w 9 1);have HL1:=ah (show 0+n<=maxLen by unfold maxLen;omega)
 have HL2:=ah (show(0+n)*16<=140737488355328 by omega)
 have HSM:=ah (Gr.Srt.small (s:=s) (by omega))
 have HL:=ah hl;have hnI:(n:Int)<2:=by omega
 have t2:decide ((n:Int)<2)=true:=rQ hnI;clear h hn hl;go_enter Tryz.func61,Tryz.ntmps61
 go_wp2_with (at_builtin;refine wpList_append_any (w.alloc (.cells #[] 9)) rfl (.tmp 12) (.tmp 13) 45 rfl w.heap.size 9 i0 (.string ⟨#[]⟩) 1 16 Tryz.underlying45 hi hz0 hz1 hz2 rfl (by decide) (.slice (some ⟨w.heap.size,0,none⟩) 0 0) 0 [] rfl HON.out B A n c (s.map ST) rfl HH.out H1.out HL1.out HL2.out (by simp) ?_)
 intro v9 w9 hown9 hgr9 hwh9;obtain⟨A9,c9,rfl⟩:=own_form hown9;have HO9:=ah hown9
 have HB9:=ah (((Below.refl w.heap.size w).alloc (rM _) (.cells #[] 9)).grown hgr9 (by simp) (fun j e=>by cases e;exact rM _))
 clear hown9 hgr9 hwh9;go_wp2;go_ret;exact⟨A9,c9,n,s,rfl,HL.out,HO9.out,HSM.out,HB9.out⟩
theorem rdedup_le: ∀l:List (List UInt8),(Gr.dedup l).length<=l.length
 |[]=>rM _
 |a :: r=>by
  have:=rdedup_le r;rw[Gr.dedup]
  split<;>simp only[sS]<;>omega
structure SrS (w2:World) (a b:List (List UInt8)) (i j:Nat) (out:List (List UInt8)) (A:Option Addr) (c m:Nat) (V:World):Prop where
 le:m<=i+j
 len:out.length=m
 own:V.ownsRow w2.heap.size 9 1 (.slice A m c) m (out.map ST)
 mrg:Gr.Mrg a b i j out
 bel:Below w2.heap.size w2 V
theorem SrS.add {w2 V V':World} {a b out:List (List UInt8)} {i j i' j' m c c':Nat} {A A':Option Addr} {x:List UInt8} {z:ByteArray} (h:SrS w2 a b i j out A c m V) (hz:(⟨x.toArray⟩:ByteArray)=z) (hm:Gr.Mrg a b i' j' (out++[x])) (hle:m+1<=i'+j') (ho:V'.ownsRow w2.heap.size 9 1 (.slice A' (m+1) c') (m+1) (out.map ST++[.string z])) (hb:Below w2.heap.size V V'):SrS w2 a b i' j' (out++[x]) A' c' (m+1) V':=
 ⟨hle,by rw[rP,h.len];rfl,by rw[uf,zS,ST,hz];exact ho,hm,h.bel.trans hb⟩
theorem SrS.below {w2 V V':World} {a b out:List (List UInt8)} {i j m c:Nat} {A:Option Addr} (h:SrS w2 a b i j out A c m V) (hb:Below V.heap.size V V'):SrS w2 a b i j out A c m V':=
 ⟨h.le,h.len,own_kept_ty h.own (only_of_below hb none) (fun g c t fz e=>by cases e),h.mrg,h.bel.trans (hb.mono h.bel.size)⟩
theorem srt_cell {W:World} {B la i:Nat} {A:Option Addr} {xa:List (List UInt8)} (h:Reads W B 1 A la (xa.map ST)) (hi:i<la): ∃pa oa x z,A=some ⟨pa,oa,none⟩/\W.cell? ⟨pa,oa+i,none⟩=some (.string z)/\(⟨x.toArray⟩:ByteArray)=z/\xa[i]?=some x:=by
 obtain⟨p,o,u,e,-,hx,hp⟩:=h.cell hi;rw[tu]at hx;obtain⟨x,hx2,rfl⟩:=uP.1 hx
 exact⟨p,o,x,_,e,hp,rfl,hx2⟩
theorem refSorted_any: ∀(m B:Nat) (A:Option Addr) (c n:Nat) (s:List (List UInt8)) (w:World),n<=m->Reads w B 1 A n (s.map ST)->s.length=n->B<=w.heap.size->n<=c->n<=1073741800->
  Calls Tryz.prog 61 #[.slice A n c] w (SortRes w s):=by
 intro m
 induction m with
 |zero=>
  intro B A c n s w hm h hl hB hc hn;exact refSorted_small B A c n s w h hl hB (by omega)
 |succ m ih=>
 intro B A c n s w hm h hl hB hc hn;by_cases h2:n<2
 ·exact refSorted_small B A c n s w h hl hB h2
 obtain⟨b,o,rfl,-,-⟩:=h.2 (by omega)
 obtain⟨q,hq⟩:=aj (n / 2);have hq1:q<=n:=by omega
 have hcq: ¬c=q:=by omega
 have hq0: ¬q=0:=by omega
 have hqI:(n:Int).tdiv 2=(q:Int):=by rw[<-hq];exact(CO n 2).symm
 have hqnI:(q:Int)<=n:=by omega
 have hncI:(n:Int)<=c:=by omega
 have hqcI:(q:Int)<=c:=by omega
 have tq:((q:Int)).toNat=q:=by omega
 have hnI:(2:Int)<=n:=by omega
 have hnB:(n:Int)<=1073741800:=by omega
 have t2:decide ((n:Int)<2)=false:=rO (by omega)
 have hcall1:=ih B (some ⟨b,o,none⟩) c q (s.take q) w (by omega) (by rw[CU];exact h.head hq1) (by rw[tK];omega) hB (by omega) (by omega)
 have hcall2:=fun(V:World) (hb:Below w.heap.size w V)=>ih B (some ⟨b,o+q,none⟩) (c - q) (n - q) (s.drop q) V (by omega) (by rw[Cb];exact(h.below (hb.mono hB)).tail hq1) (by rw[uJ];omega) (rV hB hb.size) (by omega) (by omega)
 have HC1:=ah hcall1;have HC2:=ah hcall2
 have HIN:=ah (show∀x,x∈s↔x∈s.take q\/x∈s.drop q from fun x=>by conv=>lhs;rw[<-uz q s];rw[tZ])
 have HLN:=ah hl;clear ih hcall1 hcall2 h hm hl hq h2 hc hn hB
 go_enter Tryz.func61,Tryz.ntmps61;go_wp2_with fail;refine HC1.mono ?_
 rintro e w1 ⟨A1,c1,la,xa,rfl,hla,oa,sa,b1⟩
 have HA:=ah (And.intro hla (And.intro oa (And.intro sa b1)));clear hla oa sa b1
 go_wp2_with fail;refine(HC2.out w1 HA.out.2.2.2).mono ?_
 rintro e w2 ⟨A2,c2,lb,xb,rfl,hlb,ob,sb,b2⟩
 have hla:la<=q:=by rw[<-HA.out.1,HA.out.2.2.1.length];exact rV (rdedup_le _) (by rw[tK];omega)
 have hlb2:lb<=n - q:=by rw[<-hlb,sb.length];exact rV (rdedup_le _) (by rw[uJ,HLN.out];omega)
 have hab:la+lb<=1073741800:=by omega
 have HB2:=ah (HA.out.2.2.2.trans (b2.mono HA.out.2.2.2.size))
 have HRA:=ah (show Reads w2 w2.heap.size 1 A1 la (xa.map ST) from((Reads.of_own HA.out.2.1).below b2).more b2.size)
 have HRB:=ah (show Reads w2 w2.heap.size 1 A2 lb (xb.map ST) from Reads.of_own ob)
 have HLA:=ah (And.intro HA.out.1 hlb);have HSA:=ah (And.intro HA.out.2.2.1 sb)
 have HS0:=ah (show SrS w2 xa xb 0 0 [] (some ⟨w2.heap.size,0,none⟩) 0 0 (w2.alloc (.cells #[] 9)) from⟨rM _,rfl,own_new w2 9 1,Gr.Mrg.start _ _,(Below.refl _ w2).alloc (rM _) _⟩)
 clear hla hlb2 hlb ob sb b2 HC1 HC2 HA hqI hqnI hncI hqcI tq hnI hnB t2 hq1 hcq hq0
 go_wp2_with fail
 go_loopg [5,6,7] (la+lb) (fun g v x y wr=> ∃(i j m:Nat) (A':Option Addr) (c':Nat) (out:List (List UInt8)),v=.slice A' m c'/\x=.int .i64 i/\y=.int .i64 j/\i+j+g=la+lb/\i<=la/\j<=lb/\SrS w2 xa xb i j out A' c' m wr)
 case atStart=>exact⟨0,0,0,_,_,[],rfl,rfl,rfl,by omega,by omega,by omega,HS0.out⟩
 obtain⟨i,j,m,A',c',out,rfl,rfl,rfl,hk,hil,hjl,hst⟩:=hrel;have HST:=ah hst;clear hst HS0
 cases gk with
 |zero=>
  obtain rfl:i=la:=by omega
  obtain rfl:j=lb:=by omega
  have hm:=HST.mrg;have hla:=HLA.out.1;have hlb:=HLA.out.2
  have hd:Gr.Srt s out:=Gr.Mrg.done (a:=xa) (b:=xb) (by rw[hla,hlb];exact hm) (fun x=>by rw[HSA.out.1.2 x,HSA.out.2.2 x];exact HIN.out x)
  have HD:=ah hd;clear hk hil hjl hd hm hla hlb;go_wp2;go_ret
  exact⟨A',c',m,out,rfl,HST.len,own_base HST.own HB2.size,HD.out,HB2.trans (HST.bel.mono HB2.size)⟩
 |succ g=>
  have HK:=ah hk;have hij:i<la\/j<lb:=by omega
  have hlI:(la:Int)<=1073741800:=by omega
  have hmI:(lb:Int)<=1073741800:=by omega
  have HBL:=ah (show Below w2.heap.size w2 wr from HST.bel)
  have hc:(i<la/\j=lb)\/(i=la/\j<lb)\/(i<la/\j<lb):=by omega
  have hmle:=HST.le;have hmlI:(m:Int)<=1073741800:=by omega
  refine Or.elim hc ?c1 (fun h=>Or.elim h ?c2 ?c3)
  case' c1=>
   rintro⟨h1,rfl⟩;have h1I:(i:Int)<la:=by omega
   have t1:decide ((i:Int)<la)=true:=rQ h1I;have t3:((j:Int) ==(j:Int))=true:=by simp
   obtain⟨pa,oa,x,z,rfl,hp,hz,hx⟩:=srt_cell (HRA.below HBL.out) h1
   have hm:=HST.mrg.step HSA.out.1.1 hx (fun y hy=>by rw[<-HLA.out.2,Cc]at hy;cases hy)
   have HM:=ah (show(out.getLast?=some x->Gr.Mrg xa xb (i+1) j out)/\(out.getLast?≠some x->Gr.Mrg xa xb (i+1) j (out++[x])) from hm)
   obtain⟨i',hi'⟩:=aj (i+1);obtain⟨j',hj'⟩:=aj j;rw[hi',hj']at HM
   have HN:=ah (show i'+j'+g=la+j/\i'<=la/\j'<=j/\m+1<=i'+j' by omega)
   have HI:=ah (show i+1=i'/\j=j' from⟨hi',hj'⟩)
   clear h1 hx hm hi' hj'
  case' c2=>
   rintro⟨rfl,h1⟩;have h1I:(j:Int)<lb:=by omega
   have t1:decide ((i:Int)<(i:Int))=false:=rO (by omega)
   have t2:decide ((j:Int)<lb)=true:=rQ h1I
   have t3:((j:Int) ==(lb:Int))=false:=rX.2 (by omega)
   obtain⟨pa,oa,x,z,rfl,hp,hz,hx⟩:=srt_cell (HRB.below HBL.out) h1
   have hm:=HST.mrg.symm.step HSA.out.2.1 hx (fun y hy=>by rw[<-HLA.out.1,Cc]at hy;cases hy)
   have HM:=ah (show(out.getLast?=some x->Gr.Mrg xa xb i (j+1) out)/\(out.getLast?≠some x->Gr.Mrg xa xb i (j+1) (out++[x])) from⟨fun h=>(hm.1 h).symm,fun h=>(hm.2 h).symm⟩)
   obtain⟨i',hi'⟩:=aj i;obtain⟨j',hj'⟩:=aj (j+1)
   have HI:=ah (show i=i'/\j+1=j' from⟨hi',hj'⟩)
   rw[hi',hj']at HM;have HN:=ah (show i'+j'+g=i+lb/\i'<=i/\j'<=lb/\m+1<=i'+j' by omega)
   clear h1 hx hm hi' hj'
  case' c3=>
   rintro⟨h1,h2⟩;have h1I:(i:Int)<la:=by omega
   have h2I:(j:Int)<lb:=by omega
   have t1:decide ((i:Int)<la)=true:=rQ h1I;have t2:decide ((j:Int)<lb)=true:=rQ h2I
   have t3:((j:Int) ==(lb:Int))=false:=rX.2 (by omega)
   obtain⟨pa,oa,xx,za,rfl,hp,hz,hx⟩:=srt_cell (HRA.below HBL.out) h1
   obtain⟨pb,ob,xy,zb,rfl,hpb,hzb,hxb⟩:=srt_cell (HRB.below HBL.out) h2
   obtain⟨b1,hb1⟩:=aj (Op.bytesLess za.toList zb.toList)
   obtain⟨b2,hb2⟩:=aj (za.toList == zb.toList)
   have hb:decide (xx<=xy)=(b1 || b2):=by rw[<-hb1,<-hb2,leq_bytes,<-hz,<-hzb,st_toList,st_toList]
   have HB12:=ah hb;have HX:=ah (And.intro hx (And.intro hxb (And.intro hz hzb)))
   have hNa:i+1+j+g=la+lb/\i+1<=la/\j<=lb/\m+1<=i+1+j:=by omega
   have hNb:i+(j+1)+g=la+lb/\i<=la/\j+1<=lb/\m+1<=i+(j+1):=by omega
   have HNA:=ah hNa;have HNB:=ah hNb;clear hb hx hxb hz hzb h1 h2 hNa hNb
   refine Or.elim (show(b1=true/\b2=true)\/(b1=true/\b2=false)\/(b1=false/\b2=true)\/(b1=false/\b2=false) from by cases b1<;>cases b2<;>simp) ?d1 (fun h=>Or.elim h ?d2 (fun h=>Or.elim h ?d3 ?d4))
  case' d1|d2|d3=>
   rintro⟨rfl,rfl⟩
   have hm:=HST.mrg.step HSA.out.1.1 HX.out.1 (Gr.asc_head HSA.out.2.1 HX.out.2.1 (sQ HB12.out))
   have HM:=ah (show(out.getLast?=some xx->Gr.Mrg xa xb (i+1) j out)/\(out.getLast?≠some xx->Gr.Mrg xa xb (i+1) j (out++[xx])) from hm)
   have hz:=HX.out.2.2.1;obtain⟨i',hi'⟩:=aj (i+1);obtain⟨j',hj'⟩:=aj j
   rw[hi',hj']at HM
   have HN:=ah (show i'+j'+g=la+lb/\i'<=la/\j'<=lb/\m+1<=i'+j' by have:=HNA.out;omega)
   have HI:=ah (show i+1=i'/\j=j' from⟨hi',hj'⟩)
   obtain⟨x,hx⟩: ∃x,x=xx:=⟨_,rfl⟩;obtain⟨z,hzz⟩: ∃z,z=za:=⟨_,rfl⟩;subst hx hzz
   clear hm hi' hj'
  case' d4=>
   rintro⟨rfl,rfl⟩
   have hm:=HST.mrg.symm.step HSA.out.2.1 HX.out.2.1 (Gr.asc_head HSA.out.1.1 HX.out.1 (zM (BQ.1 (sO HB12.out))))
   have HM:=ah (show(out.getLast?=some xy->Gr.Mrg xa xb i (j+1) out)/\(out.getLast?≠some xy->Gr.Mrg xa xb i (j+1) (out++[xy])) from⟨fun h=>(hm.1 h).symm,fun h=>(hm.2 h).symm⟩)
   have hz:=HX.out.2.2.2;obtain⟨i',hi'⟩:=aj i;obtain⟨j',hj'⟩:=aj (j+1)
   have HI:=ah (show i=i'/\j+1=j' from⟨hi',hj'⟩)
   rw[hi',hj']at HM
   have HN:=ah (show i'+j'+g=la+lb/\i'<=la/\j'<=lb/\m+1<=i'+j' by have:=HNB.out;omega)
   obtain⟨x,hx⟩: ∃x,x=xy:=⟨_,rfl⟩;obtain⟨z,hzz⟩: ∃z,z=zb:=⟨_,rfl⟩;subst hx hzz
   clear hm hi' hj'
  all_goals
   have HZ:=ah hz;clear hz hc hil hjl hmle
   go_upto_region 9 with fail
   go_quiet (fail)
   go_upto_region 14 with fail
   obtain⟨W5,hW5⟩:=aj (wr.drewN nq)
   have HS5:=ah (show SrS w2 xa xb i j out A' c' m W5 from hW5▸HST.below (below_drewN (Below.refl _ _) nq))
   rw[hW5];clear hW5 hp
   rcases uY m with h0|h0
   ·subst h0
    have ho:out=[]:=sH HS5.len;have HM2:=ah (HM.out.2 (by rw[ho];simp))
    clear ho
    go_wp2_with (at_builtin;refine wpList_append_one rfl (.tmp 84) (.tmp 86) 45 9 (.string ⟨#[]⟩) 16 Tryz.underlying45 info_cloneStrs rfl (by decide) rfl w2.heap.size (.slice A' 0 c') 0 (out.map ST) W5 rfl HS5.own (.string z) rfl rfl (by decide) HS5.bel.size ?_)
    intro v9 w9 ho9 hg9 hw9 hb9;obtain⟨A9,c9,rfl⟩:=own_form ho9
    have HE:=ah (HS5.add HZ.out HM2.out HN.out.2.2.2 ho9 hb9);clear ho9 hg9 hw9 hb9;go_wp2
    go_roundg g
    case measure=>omega
    exact⟨i',j',_,A9,c9,_,rfl,int_eq (by have:=HI.out;omega),int_eq (by have:=HI.out;omega),HN.out.1,HN.out.2.1,HN.out.2.2.1,HE.out⟩
   obtain⟨m',hm'⟩: ∃m',m=m'+1:=⟨m - 1,by omega⟩
   obtain⟨y,hy⟩: ∃y,out[m']?=some y:=⟨_,ay (by rw[HS5.len];omega)⟩
   have hlast:out.getLast?=some y:=by rw[BM,HS5.len,hm'];exact hy
   obtain⟨gb,rfl,-,hcell,-⟩:=own_setL HS5.own (t:=m') (by omega)
   obtain⟨zy,hzy⟩:=aj (⟨y.toArray⟩:ByteArray);rw[tu,hy]at hcell
   simp only[vg,ST,hzy]at hcell;have tm:((m:Int) == 0)=false:=rX.2 (by omega)
   have hsub:(m:Int) - 1=(m':Int):=by omega
   have pm:(0:Int)<=(m':Int):=by omega
   have tmn:((m':Int)).toNat=m':=by omega
   have hmI':(m':Int)<(m:Int):=by omega
   have hm1:(1:Int)<=(m:Int):=by omega
   have hml:m<1073741824:=by omega
   have HML:=ah hml;obtain⟨bq,hbq⟩:=aj (zy.toList == z.toList)
   have hbx:(y == x)=bq:=by rw[<-hbq,<-hzy,<-HZ.out,st_toList,st_toList]
   cases bq with
   |true=>
    obtain rfl:y=x:=uw.1 hbx
    have HE:=ah (show SrS w2 xa xb i' j' out (some ⟨gb,0,none⟩) c' m W5 from⟨yH HN.out.2.2.2,HS5.len,HS5.own,HM.out.1 hlast,HS5.bel⟩)
    clear hlast hy hzy h0 hbx hm' hml;go_wp2
    go_roundg g
    case measure=>omega
    exact⟨i',j',_,_,c',_,rfl,int_eq (by have:=HI.out;omega),int_eq (by have:=HI.out;omega),HN.out.1,HN.out.2.1,HN.out.2.2.1,HE.out⟩
   |false=>
    have HM2:=ah (HM.out.2 (by rw[hlast];intro e;cases e;simp at hbx))
    clear hlast hy hzy h0 hbx hm' hml
    go_wp2_with (at_builtin;refine wpList_append_one rfl (.tmp 84) (.tmp 86) 45 9 (.string ⟨#[]⟩) 16 Tryz.underlying45 info_cloneStrs rfl (by decide) rfl w2.heap.size (.slice (some ⟨gb,0,none⟩) m c') m (out.map ST) W5 rfl HS5.own (.string z) rfl rfl HML.out HS5.bel.size ?_)
    intro v9 w9 ho9 hg9 hw9 hb9;obtain⟨A9,c9,rfl⟩:=own_form ho9
    have HE:=ah (HS5.add HZ.out HM2.out HN.out.2.2.2 ho9 hb9);clear ho9 hg9 hw9 hb9;go_wp2
    go_roundg g
    case measure=>omega
    exact⟨i',j',_,A9,c9,_,rfl,int_eq (by have:=HI.out;omega),int_eq (by have:=HI.out;omega),HN.out.1,HN.out.2.1,HN.out.2.2.1,HE.out⟩
def nmL (s:Nat) (n:Gr.N):List (List UInt8):=if s=1 then n.labels else[]
def nmK (s:Nat) (ps:List Gr.P):List (List UInt8):=if s=3 then ps.map Gr.P.key else[]
def nmT (s:Nat) (r:Gr.R):List (List UInt8):=if s=2 then[r.type] else[]
def nmN (s:Nat) (n:Gr.N):List (List UInt8):=nmL s n++nmK s n.props
def nmR (s:Nat) (r:Gr.R):List (List UInt8):=nmT s r++nmK s r.props
def nmAll (s:Nat) (g:Gr.G):List (List UInt8):=g.nodes.flatMap (nmN s)++g.rels.flatMap (nmR s)
theorem flatMap_nil {α β:Type} (l:List α):l.flatMap (fun _=>([]:List β))=[]:=by induction l<;>simp_all
theorem nmAll1 (g:Gr.G):nmAll 1 g=Gr.names1 g:=by
 have e1:nmN 1=Gr.N.labels:=by funext n;simp[nmN,nmL,nmK]
 have e2:nmR 1=fun _=> []:=by funext n;simp[nmR,nmT,nmK]
 rw[nmAll,e1,e2,flatMap_nil,tC,Gr.names1]
theorem nmAll2 (g:Gr.G):nmAll 2 g=Gr.names2 g:=by
 have e1:nmN 2=fun _=> []:=by funext n;simp[nmN,nmL,nmK]
 have e2:nmR 2=fun r=> [Gr.R.type r]:=by funext n;simp[nmR,nmT,nmK]
 rw[nmAll,e1,e2,flatMap_nil,tY,Gr.names2]
 induction g.rels<;>simp_all
theorem nmAll3 (g:Gr.G):nmAll 3 g=Gr.names3 g:=by
 have e1:nmN 3=fun n=>n.props.map Gr.P.key:=by funext n;simp[nmN,nmL,nmK]
 have e2:nmR 3=fun n=>n.props.map Gr.P.key:=by funext n;simp[nmR,nmT,nmK]
 rw[nmAll,e1,e2,Gr.names3,Gr.allProps,uf,List.map_flatMap,List.map_flatMap]
theorem flat_pre {α β:Type} {l:List α} {f:α->List β} {k:Nat} {a:α} (h:l[k]?=some a):((l.take k).flatMap f).length+(f a).length<=(l.flatMap f).length:=by
 rw[flatMap_split h];simp only[rP];omega
structure NmS (w:World) (u v:Value) (l:List (List UInt8)) (A:Option Addr) (c m:Nat) (V:World):Prop where
 box:Blk V w.heap.size 25 #[u,v]
 len:l.length=m
 own:V.ownsRow (w.heap.size+1) 9 1 (.slice A m c) m (l.map ST)
 bel:Below w.heap.size w V
theorem NmS.below {w V V':World} {u v:Value} {l:List (List UInt8)} {A:Option Addr} {c m:Nat} (h:NmS w u v l A c m V) (hb:Below V.heap.size V V'):NmS w u v l A c m V':=
 ⟨h.box.below hb h.box.lt,h.len,own_kept_ty h.own (only_of_below hb none) (fun g c t fz e=>by cases e),h.bel.trans (hb.mono h.bel.size)⟩
theorem NmS.put {w V V':World} {u v:Value} {l x:List (List UInt8)} {A A':Option Addr} {c m c':Nat} {n:Nat} (h:NmS w u v l A c m V) (hx:x.length=n) (ho:V'.ownsRow (w.heap.size+1) 9 1 (.slice A' (m+n) c') (m+n) (l.map ST++x.map ST)) (hg:V.grownBy V' (Value.slice A m c).ownBlock):NmS w u v (l++x) A' c' (m+n) V':=
 ⟨h.box.grown hg (fun e=>own_blk_ne h.own h.box (by decide) e.symm),by rw[rP,h.len,hx],by rw[uf];exact ho,h.bel.grown hg h.bel.size (fun j e=>yH (World.ownsRow.lt h.own j e).1)⟩
theorem flat_add {α β:Type} {l:List α} {f:α->List β} {k:Nat} {a:α} {x y:List β} (h:l[k]?=some a) (e:f a=x++y):(l.take (k+1)).flatMap f=(l.take k).flatMap f++x++y:=by
 rw[flatMap_take h,e,sV]
theorem eq_case {s:Nat} {k:Nat} {b:Bool} (h:((s:Int) ==(k:Int))=b):(b=true->s=k)/\(b=false-> ¬s=k):=by
 subst h
 exact⟨fun e=>by have:=uw.1 e;omega,fun e h=>by rw[h,beq_self_eq_true]at e;cases e⟩
theorem own_cap {W:World} {B e n c:Nat} {A:Option Addr} {xs:List Value} (h:W.ownsRow B e 1 (.slice A n c) n xs):n<=c:=by
 rcases h.2 with⟨_,h0⟩|⟨g,cap,cur,e,hg,hc,q1,q2,q3⟩
 ·omega
 cases e
 first|exact q1|exact q2|omega
theorem case_two {s j pn M:Nat} {b:Bool} (h1:b=true->M=pn) (h2:b=false->M=0) (hj:j=M):(b=true/\(pn:Int)<=j/\decide ((j:Int)<pn)=false)\/(b=false/\(j:Int)<pn/\decide ((j:Int)<pn)=true)\/(b=false/\(pn:Int)<=j/\decide ((j:Int)<pn)=false):=by
 cases b with
 |true=>exact .inl ⟨rfl,by have:=h1 rfl;omega,rO (by have:=h1 rfl;omega)⟩
 |false=>
  by_cases h:(j:Int)<pn
  ·exact .inr (.inl ⟨rfl,h,rQ h⟩)
  exact .inr (.inr ⟨rfl,by omega,rO h⟩)
theorem keys_done {s j M:Nat} {ps:List Gr.P} (h1:s=3->M=ps.length) (hj:j=M):nmK s (ps.take j)=nmK s ps:=by
 unfold nmK
 split
 ·rename_i h
  rw[hj,h1 h,yL]
 rfl
theorem keys_more {s j:Nat} {ps:List Gr.P} {p:Gr.P} (h3:s=3) (hp:ps[j]?=some p):nmK s (ps.take (j+1))=nmK s (ps.take j)++[p.key]:=by
 unfold nmK;rw[rY h3,rY h3,uM,hp];simp
theorem keys_none (s:Nat) (ps:List Gr.P):nmK s (ps.take 0)=[]:=by
 unfold nmK
 split<;>rfl
theorem keys_le (s j:Nat) (ps:List Gr.P):(nmK s (ps.take j)).length<=(nmK s ps).length:=by
 unfold nmK
 split
 ·rw[sU,sU,tK]
  omega
 exact rM _
theorem info_str16:(Tryz.prog.info? 9).map (fun i=>(i.zero,i.size,i.bytes))=some (some (.string ⟨#[]⟩),1,16):=by kernel_rfl
theorem jE (s:Nat) (B:Nat) (u:Value) (g:Gr.G) (w:World) (h:GIn w B u g) (hB:B<=w.heap.size) (hlen:(nmAll s g).length<=1073741800):
  Calls Tryz.prog 26 #[u,.int .i64 s] w fun e w'=> ∃A c out,e=.returned (.slice A (Gr.dedup (nmAll s g)).length c)/\Gr.Srt (nmAll s g) out/\
   w'.ownsRow w.heap.size 9 1 (.slice A (Gr.dedup (nmAll s g)).length c) (Gr.dedup (nmAll s g)).length (out.map ST)/\Below w.heap.size w w':=by
 have hok:=h.ok;obtain⟨An,cn,Ar,cr,rfl,hN,hR⟩:=h.ex
 obtain⟨i0,hi,hz0,hz1,hz2⟩:=info_parts info_str16;obtain⟨nn,hnn⟩:=aj g.nodes.length
 obtain⟨rn,hrn⟩:=aj g.rels.length;obtain⟨b1,hb1⟩:=aj ((s:Int) == 1)
 obtain⟨b2,hb2⟩:=aj ((s:Int) == 2);obtain⟨b3,hb3⟩:=aj ((s:Int) == 3)
 have HE1:=ah (eq_case hb1);have HE2:=ah (eq_case hb2);have HE3:=ah (eq_case hb3)
 have hnl:=hok.nl;have hrl:=hok.rl;rw[hnn]at hnl⊢;rw[hrn]at hrl⊢;have HN:=ah hN
 have HR:=ah hR;have HOK:=ah hok;have HNN:=ah hnn;have HRN:=ah hrn;have HLN:=ah hlen
 have HBB:=ah hB
 have HS0:=ah (show NmS w (.slice An nn cn) (.slice Ar rn cr) [] (some ⟨w.heap.size+1,0,none⟩) 0 0 ((w.alloc (.cells #[.slice An nn cn,.slice Ar rn cr] 25)).alloc (.cells #[] 9)) from
  ⟨(Blk.new w _ _).alloc _,rfl,by have:=own_new (w.alloc (.cells #[.slice An nn cn,.slice Ar rn cr] 25)) 9 1;simpa using this,((Below.refl _ w).alloc (rM _) _).alloc (by simp) _⟩)
 obtain⟨W0,hW0⟩:=aj ((w.alloc (.cells #[.slice An nn cn,.slice Ar rn cr] 25)).alloc (.cells #[] 9))
 rw[hW0]at HS0;have HW0:=ah hW0;clear h hok hN hR hnn hrn hlen hB hW0
 go_enter Tryz.func26,Tryz.ntmps26
 go_upto_region 2 with fail
 rw[HW0.out];clear HW0;obtain⟨c0,c1⟩:=cells2 HS0.box;go_wp2_with fail
 go_loopg [5,6] nn (fun q o x wr=> ∃(k:Nat) (A':Option Addr) (c' m:Nat),o=.slice A' m c'/\x=.int .i64 k/\k+q=nn/\NmS w (.slice An nn cn) (.slice Ar rn cr) ((g.nodes.take k).flatMap (nmN s)) A' c' m wr)
 case atStart=>exact⟨0,_,_,_,rfl,rfl,by omega,HS0.out⟩
 obtain⟨k,A',c',m,rfl,rfl,hk,hst⟩:=hrel;have HST:=ah hst;clear hst c0 c1 HS0
 obtain⟨c0,c1⟩:=cells2 HST.box;cases gk with
 |succ q=>
  have hkn:k<nn:=by omega
  have hknI:(k:Int)<nn:=by omega
  have pk:(0:Int)<=(k:Int):=by omega
  have tk:((k:Int)).toNat=k:=by omega
  obtain⟨n,hn⟩: ∃n,g.nodes[k]?=some n:=⟨_,ay (by rw[HNN.out];exact hkn)⟩
  have hBw:=HST.bel.mono HBB.out
  obtain⟨b,oo,Al,cl,Ap,cp,rfl,hlt,⟨d0,d1,d2⟩,r1,rp⟩:=(HN.below hBw (NodeC.below hBw)).node hn
  have hnok:=HOK.ns n (sK hn);obtain⟨ln,hln⟩:=aj n.labels.length
  obtain⟨pn,hpn⟩:=aj n.props.length;have hpl:=hnok.pl;rw[hln]at d1 r1
  rw[hpn]at d2 hpl;obtain⟨nb,hnb⟩:=aj wr.heap.size
  obtain⟨WN,hWN⟩:=aj (wr.alloc (.cells #[.int .i64 n.id,.slice Al ln cl,.slice Ap pn cp] 48))
  have hbN:Below wr.heap.size wr WN:=hWN▸(Below.refl _ wr).alloc (rM _) _
  have hkN:Blk WN nb 48 #[.int .i64 n.id,.slice Al ln cl,.slice Ap pn cp]:=by rw[<-hWN,<-hnb];exact Blk.new _ _ _
  have hsz:=HST.bel.size;have hbB:Below B wr WN:=hbN.mono (rV HBB.out hsz)
  have HSN:=ah (HST.below hbN);have HKN:=ah hkN;have HWN:=ah hWN;have HNB:=ah hnb
  have HRD:=ah (r1.below hbB);have HRP:=ah (rp.below hbB (PropC.below hbB))
  have HLL:=ah hln;have HPN:=ah hpn;have HBN:=ah (rV (rV HBB.out hsz) hbN.size)
  have HOKN:=ah hnok;have HFP:=ah (flat_pre (f:=nmN s) hn)
  have HFA:=ah (flat_add (f:=nmN s) (x:=nmL s n) (y:=nmK s n.props) hn rfl)
  have HTOT:=ah (show(g.nodes.flatMap (nmN s)).length<=1073741800 by have:=HLN.out;unfold nmAll at this;rw[rP]at this;omega)
  have HK:=ah hk;clear hkn hn hBw hlt hnok hln hpn hnb hWN hbN hkN hsz hbB r1 rp hk
  go_upto_region 6 with fail
  rw[HWN.out,HNB.out];clear HWN HNB c0 c1 d0 d1 d2
  obtain⟨L,hL⟩:=aj ((g.nodes.take k).flatMap (nmN s));have HLL2:=ah hL
  rw[hL]at HSN HFP HFA;clear hL HST;obtain⟨d0,d1,d2⟩:=cells3 HKN.out
  have hml:m+((nmL s n).length+(nmK s n.props).length)<=1073741800:=by
   have h1:=HFP.out;have h2:=HTOT.out;have h3:=HSN.len
   rw[show nmN s n=nmL s n++nmK s n.props from rfl,rP]at h1
   omega
  have HML:=ah hml;clear hml
  go_upto_if 26 with fail
  go_cut [5] (fun o wx=> ∃(A2:Option Addr) (c2 m2:Nat),o=.slice A2 m2 c2/\NmS w (.slice (some ⟨b,oo,none⟩) nn cn) (.slice Ar rn cr) (L++nmL s n) A2 c2 m2 wx/\Below B WN wx/\Blk wx nb 48 #[.int .i64 n.id,.slice Al ln cl,.slice Ap pn cp])
  case first=>
   cases b1 with
   |false=>
    have he:nmL s n=[]:=rU (HE1.out.2 rfl)
    have HF:=ah (show NmS w (.slice (some ⟨b,oo,none⟩) nn cn) (.slice Ar rn cr) (L++nmL s n) A' c' m WN by rw[he,tC];exact HSN.out)
    clear he;refine wp_cond_false rfl ?_;go_wp2;go_meet
    exact⟨A',c',m,rfl,HF.out,Below.refl _ _,HKN.out⟩
   |true=>
    have he:nmL s n=n.labels:=rY (HE1.out.1 rfl)
    have HMM:=ah (show m+ln<=maxLen/\(m+ln)*16<=140737488355328 by have:=HML.out;rw[he,HLL.out]at this;unfold maxLen;omega)
    have H1:=ah (st_cells n.labels);have HE:=ah he;clear he;refine wp_cond_true rfl ?_
    go_wp2_with (at_builtin;refine wpList_append_any WN rfl (.tmp 27) (.tmp 29) 45 rfl (w.heap.size+1) 9 i0 (.string ⟨#[]⟩) 1 16 Tryz.underlying45 hi hz0 hz1 hz2 rfl (by decide) (.slice A' m c') m (L.map ST) rfl HSN.own B Al ln cl (n.labels.map ST) rfl HRD.out H1.out HMM.out.1 HMM.out.2 (Ac HSN.box.lt) ?_)
    intro v9 w9 ho9 hg9 hw9;obtain⟨A9,c9,rfl⟩:=own_form ho9
    have HF:=ah (HSN.put HLL.out ho9 hg9)
    have HB9:=ah (show Below B WN w9 from(Below.refl B WN).grown hg9 HBN.out (fun j e=>rV HBB.out (yH (World.ownsRow.lt HSN.own j e).1)))
    have HK9:=ah (HKN.grown hg9 (fun e=>own_blk_ne HSN.own HKN.out (by decide) e.symm))
    clear ho9 hg9 hw9;go_wp2;go_meet
    exact⟨A9,c9,m+ln,rfl,by rw[HE.out];exact HF.out,HB9.out,HK9.out⟩
  obtain⟨A2,c2,m2,rfl,h2,hb2,hk2⟩:=hcut;have HS2:=ah h2;have HB2:=ah hb2;have HK2:=ah hk2
  obtain⟨L2,hL2⟩:=aj (L++nmL s n);rw[hL2]at HS2 HFA
  have HM2:=ah (show m2+(nmK s n.props).length<=1073741800 by
   have h1:=HS2.len;have h2:=HML.out;have h3:=HSN.len;rw[<-hL2,rP]at h1
   omega)
  have HS2':=ah (show L2.length+(nmK s n.props).length<=1073741800 by have:=HM2.out;have:=HS2.len;omega)
  clear h2 hb2 hk2 hL2 d0 d1 d2;obtain⟨M,hM⟩:=aj (if s=3 then pn else 0)
  have HMD:=ah hM;have hMle:M<=1073741824:=by rw[<-hM];split<;>omega
  have HMP:=ah (show b3=true->M=pn from fun e=>by rw[<-hM,rY (HE3.out.1 e)])
  have HM0:=ah (show b3=false->M=0 from fun e=>by rw[<-hM,rU (HE3.out.2 e)])
  clear hM;go_wp2_with fail
  go_loopg [5,8] M (fun q o x wq=> ∃(j:Nat) (A3:Option Addr) (c3 m3:Nat),o=.slice A3 m3 c3/\x=.int .i64 j/\j+q=M/\NmS w (.slice (some ⟨b,oo,none⟩) nn cn) (.slice Ar rn cr) (L2++nmK s (n.props.take j)) A3 c3 m3 wq/\Below B WN wq/\Blk wq nb 48 #[.int .i64 n.id,.slice Al ln cl,.slice Ap pn cp])
  case atStart=>exact⟨0,A2,c2,m2,rfl,rfl,by omega,by rw[keys_none,tC];exact HS2.out,HB2.out,HK2.out⟩
  obtain⟨j,A3,c3,m3,rfl,rfl,hj,h3,hb3',hk3⟩:=hrel;have HS3:=ah h3;have HB3:=ah hb3'
  have HK3:=ah hk3;have HJ:=ah hj;clear h3 hb3' hk3 HS2 HB2 HK2
  obtain⟨d0,d1,d2⟩:=cells3 HK3.out;cases gk with
  |zero=>
   have hbb:=case_two (s:=s) HMP.out HM0.out hj
   have hkd:=keys_done (s:=s) (ps:=n.props) (fun e=>by rw[HPN.out];exact HMP.out (by cases b3 with|true=>rfl|false=>exact absurd e (HE3.out.2 rfl))) hj
   have HF:=ah (show NmS w (.slice (some ⟨b,oo,none⟩) nn cn) (.slice Ar rn cr) ((g.nodes.take (k+1)).flatMap (nmN s)) A3 c3 m3 wr by rw[HFA.out,<-hkd];exact HS3.out)
   obtain⟨c0,c1⟩:=cells2 HF.box;clear hj hkd
   rcases hbb with⟨rfl,hjI,tj⟩|⟨rfl,hjI,tj⟩|⟨rfl,hjI,tj⟩
   all_goals
    go_wp2
    go_roundg q
    case measure=>omega
    exact⟨k+1,A3,c3,m3,rfl,int_eq (by omega),by have:=HK.out;omega,HF.out⟩
  |succ q2=>
   cases b3 with
   |false=>have:=HM0.out rfl;omega
   |true=>
    have hMp:=HMP.out rfl;have hkn:j<pn:=by omega
    have hjI:(j:Int)<pn:=by omega
    have tj:decide ((j:Int)<pn)=true:=rQ hjI;have pj:(0:Int)<=(j:Int):=by omega
    have tjn:((j:Int)).toNat=j:=by omega
    obtain⟨p,hp⟩: ∃p,n.props[j]?=some p:=⟨_,ay (by rw[HPN.out];exact hkn)⟩
    obtain⟨b',o',An',cn',At',ct',rfl,hlt,⟨p0,-,-,-,-,-⟩,-,-⟩:=(HRP.below HB3.out (PropC.below HB3.out)).prop hp
    simp only[ST]at p0;obtain⟨z,hz⟩:=aj (⟨p.key.toArray⟩:ByteArray);rw[hz]at p0
    have hm3:m3<1073741824:=by
     have h1:=HS3.len;have h2:=HM2.out;have h3:=HS2'.out;have h4:=keys_le s j n.props
     rw[rP]at h1;omega
    have HM3:=ah hm3;obtain⟨L3,hL3⟩:=aj (L2++nmK s (n.props.take j));rw[hL3]at HS3
    have HL3:=ah hL3;have HKM:=ah (keys_more (HE3.out.1 rfl) hp);have HZ:=ah hz
    clear hMp hkn hp hlt hz hm3 hj hL3
    go_wp2_with (at_builtin;refine wpList_append_one rfl (.tmp 42) (.tmp 49) 45 9 (.string ⟨#[]⟩) 16 Tryz.underlying45 info_cloneStrs rfl (by decide) rfl (w.heap.size+1) (.slice A3 m3 c3) m3 (L3.map ST) wr rfl HS3.own (.string z) rfl rfl HM3.out (Ac HS3.box.lt) ?_)
    intro v9 w9 ho9 hg9 hw9 hb9;obtain⟨A9,c9,rfl⟩:=own_form ho9
    have HF:=ah (show NmS w (.slice (some ⟨b,oo,none⟩) nn cn) (.slice Ar rn cr) (L2++nmK s (n.props.take (j+1))) A9 c9 (m3+1) w9 by
     rw[HKM.out,<-sV,HL3.out]
     exact HS3.put (x:=[p.key]) rfl (by rw[zS,ST,HZ.out];exact ho9) hg9)
    have HB9:=ah (HB3.trans ((Below.refl B wr).grown hg9 (rV HBN.out HB3.size) (fun j e=>rV HBB.out (yH (World.ownsRow.lt HS3.own j e).1))))
    have HK9:=ah (HK3.grown hg9 (fun e=>own_blk_ne HS3.own HK3.out (by decide) e.symm))
    clear ho9 hg9 hw9 hb9 p0 d0 d1 d2;go_wp2
    go_roundg q2
    case measure=>omega
    exact⟨j+1,A9,c9,m3+1,rfl,int_eq (by omega),by have:=HJ.out;omega,HF.out,HB9.out,HK9.out⟩
 |zero=>
  obtain rfl:nn=k:=by omega
  have hf:g.nodes.take nn=g.nodes:=sG (by rw[HNN.out];exact rM _)
  obtain⟨LN,hL⟩:=aj (g.nodes.flatMap (nmN s));rw[hf,hL]at HST;have HLG:=ah hL
  have HTOT:=ah (show LN.length+(g.rels.flatMap (nmR s)).length<=1073741800 by have:=HLN.out;unfold nmAll at this;rw[rP,hL]at this;exact this)
  clear hk hf hL;go_wp2_with fail
  go_loopg [5,9] rn (fun q o x wr=> ∃(k:Nat) (A':Option Addr) (c' m:Nat),o=.slice A' m c'/\x=.int .i64 k/\k+q=rn/\NmS w (.slice An nn cn) (.slice Ar rn cr) (LN ++(g.rels.take k).flatMap (nmR s)) A' c' m wr)
  case atStart=>exact⟨0,A',c',m,rfl,rfl,by omega,by simpa using HST.out⟩
  obtain⟨k,A',c',m,rfl,rfl,hk,hst⟩:=hrel;have HSR:=ah hst;clear hst c0 c1
  obtain⟨c0,c1⟩:=cells2 HSR.box;cases gk with
  |succ q=>
   have hkn:k<rn:=by omega
   have hknI:(k:Int)<rn:=by omega
   have pk:(0:Int)<=(k:Int):=by omega
   have tk:((k:Int)).toNat=k:=by omega
   obtain⟨n,hn⟩: ∃n,g.rels[k]?=some n:=⟨_,ay (by rw[HRN.out];exact hkn)⟩
   have hBw:=HSR.bel.mono HBB.out
   obtain⟨b,oo,Ap,cp,rfl,hlt,⟨d0,d1,d2,d3,d4⟩,rp⟩:=(HR.below hBw (RelC.below hBw)).rel hn
   have hnok:=HOK.rs n (sK hn);simp only[ST]at d1
   obtain⟨zt,hzt⟩:=aj (⟨n.type.toArray⟩:ByteArray);obtain⟨pn,hpn⟩:=aj n.props.length
   have hpl:=hnok.pl;rw[hzt]at d1;rw[hpn]at d4 hpl;obtain⟨nb,hnb⟩:=aj wr.heap.size
   obtain⟨WN,hWN⟩:=aj (wr.alloc (.cells #[.int .i64 n.id,.string zt,.int .i64 n.src,.int .i64 n.dst,.slice Ap pn cp] 55))
   have hbN:Below wr.heap.size wr WN:=hWN▸(Below.refl _ wr).alloc (rM _) _
   have hkN:Blk WN nb 55 #[.int .i64 n.id,.string zt,.int .i64 n.src,.int .i64 n.dst,.slice Ap pn cp]:=by rw[<-hWN,<-hnb];exact Blk.new _ _ _
   have hsz:=HSR.bel.size;have hbB:Below B wr WN:=hbN.mono (rV HBB.out hsz)
   have HSN:=ah (HSR.below hbN);have HKN:=ah hkN;have HWN:=ah hWN;have HNB:=ah hnb
   have HRP:=ah (rp.below hbB (PropC.below hbB));have HLL:=ah hzt;have HPN:=ah hpn
   have HBN:=ah (rV (rV HBB.out hsz) hbN.size);have HOKN:=ah hnok
   have HFP:=ah (flat_pre (f:=nmR s) hn)
   have HFA:=ah (flat_add (f:=nmR s) (x:=nmT s n) (y:=nmK s n.props) hn rfl)
   have HK:=ah hk;clear hkn hn hBw hlt hnok hzt hpn hnb hWN hbN hkN hsz hbB rp hk
   go_upto_region 16 with fail
   rw[HWN.out,HNB.out];clear HWN HNB c0 c1 d0 d1 d2 d3 d4
   obtain⟨LR,hLR⟩:=aj ((g.rels.take k).flatMap (nmR s));rw[hLR]at HSN HFP HFA
   obtain⟨L,hL⟩:=aj (LN++LR);rw[hL]at HSN;have HLq:=ah hL
   have HFA:=ah (show LN ++(g.rels.take (k+1)).flatMap (nmR s)=L++nmT s n++nmK s n.props by rw[HFA.out,<-hL,<-sV,<-sV])
   clear hL hLR HSR;obtain⟨d0,d1,d2,d3,d4⟩:=cells5 HKN.out
   have hml:m+((nmT s n).length+(nmK s n.props).length)<=1073741800:=by
    have h1:=HFP.out;have h2:=HTOT.out;have h3:=HSN.len;rw[<-HLq.out,rP]at h3
    rw[show nmR s n=nmT s n++nmK s n.props from rfl,rP]at h1
    omega
   have HML:=ah hml;clear hml
   go_upto_if 64 with fail
   go_cut [5] (fun o wx=> ∃(A2:Option Addr) (c2 m2:Nat),o=.slice A2 m2 c2/\NmS w (.slice An nn cn) (.slice (some ⟨b,oo,none⟩) rn cr) (L++nmT s n) A2 c2 m2 wx/\Below B WN wx/\Blk wx nb 55 #[.int .i64 n.id,.string zt,.int .i64 n.src,.int .i64 n.dst,.slice Ap pn cp])
   case first=>
    cases b2 with
    |false=>
     have he:nmT s n=[]:=rU (HE2.out.2 rfl)
     have HF:=ah (show NmS w (.slice An nn cn) (.slice (some ⟨b,oo,none⟩) rn cr) (L++nmT s n) A' c' m WN by rw[he,tC];exact HSN.out)
     clear he;refine wp_cond_false rfl ?_;go_wp2;go_meet
     exact⟨A',c',m,rfl,HF.out,Below.refl _ _,HKN.out⟩
    |true=>
     have he:nmT s n=[n.type]:=rY (HE2.out.1 rfl)
     have HMM:=ah (show m<1073741824 by have:=HML.out;omega)
     have HE:=ah he;clear he;refine wp_cond_true rfl ?_
     go_wp2_with (at_builtin;refine wpList_append_one rfl (.tmp 65) (.tmp 68) 45 9 (.string ⟨#[]⟩) 16 Tryz.underlying45 info_cloneStrs rfl (by decide) rfl (w.heap.size+1) (.slice A' m c') m (L.map ST) WN rfl HSN.own (.string zt) rfl rfl HMM.out (Ac HSN.box.lt) ?_)
     intro v9 w9 ho9 hg9 hw9 hb9;obtain⟨A9,c9,rfl⟩:=own_form ho9
     have HF:=ah (show NmS w (.slice An nn cn) (.slice (some ⟨b,oo,none⟩) rn cr) (L++nmT s n) A9 c9 (m+1) w9 by
      rw[HE.out]
      exact HSN.put (x:=[n.type]) rfl (by rw[zS,ST,HLL.out];exact ho9) hg9)
     have HB9:=ah (show Below B WN w9 from(Below.refl B WN).grown hg9 HBN.out (fun j e=>rV HBB.out (yH (World.ownsRow.lt HSN.own j e).1)))
     have HK9:=ah (HKN.grown hg9 (fun e=>own_blk_ne HSN.own HKN.out (by decide) e.symm))
     clear ho9 hg9 hw9 hb9;go_wp2;go_meet;exact⟨A9,c9,m+1,rfl,HF.out,HB9.out,HK9.out⟩
   obtain⟨A2,c2,m2,rfl,h2,hb2,hk2⟩:=hcut;have HS2:=ah h2;have HB2:=ah hb2
   have HK2:=ah hk2;obtain⟨L2,hL2⟩:=aj (L++nmT s n);rw[hL2]at HS2 HFA
   have HM2:=ah (show m2+(nmK s n.props).length<=1073741800 by
    have h1:=HS2.len;have h2:=HML.out;have h3:=HSN.len;rw[<-hL2,rP]at h1
    omega)
   have HS2':=ah (show L2.length+(nmK s n.props).length<=1073741800 by have:=HM2.out;have:=HS2.len;omega)
   clear h2 hb2 hk2 hL2 d0 d1 d2 d3 d4;obtain⟨M,hM⟩:=aj (if s=3 then pn else 0)
   have HMD:=ah hM;have hMle:M<=1073741824:=by rw[<-hM];split<;>omega
   have HMP:=ah (show b3=true->M=pn from fun e=>by rw[<-hM,rY (HE3.out.1 e)])
   have HM0:=ah (show b3=false->M=0 from fun e=>by rw[<-hM,rU (HE3.out.2 e)])
   clear hM;go_wp2_with fail
   go_loopg [5,11] M (fun q o x wq=> ∃(j:Nat) (A3:Option Addr) (c3 m3:Nat),o=.slice A3 m3 c3/\x=.int .i64 j/\j+q=M/\NmS w (.slice An nn cn) (.slice (some ⟨b,oo,none⟩) rn cr) (L2++nmK s (n.props.take j)) A3 c3 m3 wq/\Below B WN wq/\Blk wq nb 55 #[.int .i64 n.id,.string zt,.int .i64 n.src,.int .i64 n.dst,.slice Ap pn cp])
   case atStart=>exact⟨0,A2,c2,m2,rfl,rfl,by omega,by rw[keys_none,tC];exact HS2.out,HB2.out,HK2.out⟩
   obtain⟨j,A3,c3,m3,rfl,rfl,hj,h3,hb3',hk3⟩:=hrel;have HS3:=ah h3;have HB3:=ah hb3'
   have HK3:=ah hk3;have HJ:=ah hj;clear h3 hb3' hk3 HS2 HB2 HK2
   obtain⟨d0,d1,d2,d3,d4⟩:=cells5 HK3.out;cases gk with
   |zero=>
    have hbb:=case_two (s:=s) HMP.out HM0.out hj
    have hkd:=keys_done (s:=s) (ps:=n.props) (fun e=>by rw[HPN.out];exact HMP.out (by cases b3 with|true=>rfl|false=>exact absurd e (HE3.out.2 rfl))) hj
    have HF:=ah (show NmS w (.slice An nn cn) (.slice (some ⟨b,oo,none⟩) rn cr) (LN ++(g.rels.take (k+1)).flatMap (nmR s)) A3 c3 m3 wr by rw[HFA.out,<-hkd];exact HS3.out)
    obtain⟨c0,c1⟩:=cells2 HF.box;clear hj hkd
    rcases hbb with⟨rfl,hjI,tj⟩|⟨rfl,hjI,tj⟩|⟨rfl,hjI,tj⟩
    all_goals
     go_wp2
     go_roundg q
     case measure=>omega
     exact⟨k+1,A3,c3,m3,rfl,int_eq (by omega),by have:=HK.out;omega,HF.out⟩
   |succ q2=>
    cases b3 with
    |false=>have:=HM0.out rfl;omega
    |true=>
     have hMp:=HMP.out rfl;have hkn:j<pn:=by omega
     have hjI:(j:Int)<pn:=by omega
     have tj:decide ((j:Int)<pn)=true:=rQ hjI;have pj:(0:Int)<=(j:Int):=by omega
     have tjn:((j:Int)).toNat=j:=by omega
     obtain⟨p,hp⟩: ∃p,n.props[j]?=some p:=⟨_,ay (by rw[HPN.out];exact hkn)⟩
     obtain⟨b',o',An',cn',At',ct',rfl,hlt,⟨p0,-,-,-,-,-⟩,-,-⟩:=(HRP.below HB3.out (PropC.below HB3.out)).prop hp
     simp only[ST]at p0;obtain⟨z,hz⟩:=aj (⟨p.key.toArray⟩:ByteArray);rw[hz]at p0
     have hm3:m3<1073741824:=by
      have h1:=HS3.len;have h2:=HM2.out;have h3:=HS2'.out;have h4:=keys_le s j n.props
      rw[rP]at h1;omega
     have HM3:=ah hm3;obtain⟨L3,hL3⟩:=aj (L2++nmK s (n.props.take j));rw[hL3]at HS3
     have HL3:=ah hL3;have HKM:=ah (keys_more (HE3.out.1 rfl) hp);have HZ:=ah hz
     clear hMp hkn hp hlt hz hm3 hj hL3
     go_wp2_with (at_builtin;refine wpList_append_one rfl (.tmp 81) (.tmp 88) 45 9 (.string ⟨#[]⟩) 16 Tryz.underlying45 info_cloneStrs rfl (by decide) rfl (w.heap.size+1) (.slice A3 m3 c3) m3 (L3.map ST) wr rfl HS3.own (.string z) rfl rfl HM3.out (Ac HS3.box.lt) ?_)
     intro v9 w9 ho9 hg9 hw9 hb9;obtain⟨A9,c9,rfl⟩:=own_form ho9
     have HF:=ah (show NmS w (.slice An nn cn) (.slice (some ⟨b,oo,none⟩) rn cr) (L2++nmK s (n.props.take (j+1))) A9 c9 (m3+1) w9 by
      rw[HKM.out,<-sV,HL3.out]
      exact HS3.put (x:=[p.key]) rfl (by rw[zS,ST,HZ.out];exact ho9) hg9)
     have HB9:=ah (HB3.trans ((Below.refl B wr).grown hg9 (rV HBN.out HB3.size) (fun j e=>rV HBB.out (yH (World.ownsRow.lt HS3.own j e).1))))
     have HK9:=ah (HK3.grown hg9 (fun e=>own_blk_ne HS3.own HK3.out (by decide) e.symm))
     clear ho9 hg9 hw9 hb9 p0 d0 d1 d2 d3 d4;go_wp2
     go_roundg q2
     case measure=>omega
     exact⟨j+1,A9,c9,m3+1,rfl,int_eq (by omega),by have:=HJ.out;omega,HF.out,HB9.out,HK9.out⟩
  |zero=>
   obtain rfl:rn=k:=by omega
   have hf:g.rels.take rn=g.rels:=sG (by rw[HRN.out];exact rM _)
   rw[hf,<-HLG.out]at HSR
   have hst:NmS w (.slice An nn cn) (.slice Ar rn cr) (nmAll s g) A' c' m wr:=HSR.out
   obtain⟨AL,hAL⟩:=aj (nmAll s g);rw[hAL]at hst HLN;have HAL:=ah hAL
   have hcall:=refSorted_any m wr.heap.size A' c' m AL wr (rM _) (Reads.of_own hst.own) hst.len (rM _) (own_cap hst.own) (hst.len▸HLN.out)
   have HCL:=ah hcall;have HST2:=ah hst;clear hk hf hst hcall hAL HSR;go_wp2_with fail
   refine HCL.mono ?_;rintro e w9 ⟨A9,c9,m9,out,rfl,hl9,ho9,hs9,hb9⟩
   have nH:m9=(Gr.dedup AL).length:=by rw[<-hl9];exact hs9.length
   rw[nH]at ho9⊢;have HM9:=ah (And.intro hs9 (own_base ho9 HST2.bel.size))
   have HB9:=ah (HST2.bel.trans (hb9.mono HST2.bel.size));clear hl9 hs9 hb9 ho9 nH;go_wp2
   go_ret
   exact⟨A9,c9,out,by rw[HAL.out];rfl,by rw[HAL.out];exact HM9.out.1,by rw[HAL.out];exact HM9.out.2,HB9.out⟩
theorem refNames_any (s:Nat) (B:Nat) (u:Value) (g:Gr.G) (w:World) (h:GIn w B u g) (hB:B<=w.heap.size) (hlen:(nmAll s g).length<=1073741800):
  Calls Tryz.prog 26 #[u,.int .i64 s] w fun e w'=> ∃A c,e=.returned (.slice A (Gr.dedup (nmAll s g)).length c)/\Below w.heap.size w w':=
 (jE s B u g w h hB hlen).mono fun _ _ ⟨A,c,_,h1,_,_,h4⟩=>⟨A,c,h1,h4⟩
end Go.Proofs.YtanlehkalkafdaaGreatDoor
