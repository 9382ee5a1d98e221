/- Contracts and plain laws,part 32. -/
import Derived.Test.YtkdakckjafomhaaGreatDoorUW31
set_option maxHeartbeats 64000000
set_option maxRecDepth 1000000
set_option linter.all false
namespace Go.Proofs.YtkdakckjafomhaaGreatDoor
open Go.RowKit
def letters:List UInt8:=[97,98,99,100,101,102,103,104,105,106,107,108,109,110,111,112,113,114,115,116,117,118,119,120,121,122,65,66,67,68,69,70,71,72,73,74,75,76,77,78,79,80,81,82,83,84,85,86,87,88,89,90,95,48,49,50,51,52,53,54,55,56,57]
def wX (c:UInt8):Nat:=letters.findIdx (· == c)
def acp (n:Nat):Bool:=decide (wX (UInt8.ofNat n)<=63) &&(decide (wX (UInt8.ofNat n)=63) == !Lex.oG (UInt8.ofNat n)) &&(decide (52<wX (UInt8.ofNat n)) ==(!Lex.oG (UInt8.ofNat n) || Num.bn (UInt8.ofNat n)))
theorem alb:(List.range 256).all acp=true:=by kernel_rfl
theorem IJ (c:UInt8):wX c<=63/\(wX c=63↔Lex.oG c=false)/\(52<wX c↔Lex.oG c=false\/Num.bn c=true):=by
 have h:=afF.1 alb c.toNat (anO.2 c.toNat_lt);unfold acp at h;rw[aqP]at h
 simp only[aeW,aei,aeI]at h;obtain⟨⟨h1,h2⟩,h3⟩:=h;refine⟨h1, ?_, ?_⟩
 ·exact⟨fun e=>by rw[adb e]at h2;simpa using h2.symm,fun e=>by rw[e]at h2;simpa using h2⟩
 exact⟨fun e=>by rw[adb e]at h3;simpa using h3.symm,fun e=>by
  have h4:(!Lex.oG c || Num.bn c)=true:=by rcases e with e|e<;>simp[e]
  rw[h4]at h3;simpa using h3⟩
theorem pos_at {c:UInt8} (h:wX c<63):letters[wX c]?=some c:=by
 have hl:wX c<letters.length:=h;rw[dF hl];have:=List.findIdx_getElem (w:=hl)
 exact aeH some (aeI.1 this)
theorem alc {c:UInt8} {j:Nat} (h:j<wX c): ∃d,letters[j]?=some d/\d≠c:=by
 have hl:j<letters.length:=adW h (IJ c).1;refine⟨_,dF hl, ?_⟩
 have:=List.not_of_lt_findIdx h
 simpa using this
theorem acr {j:Nat} {d:UInt8} (hj:j<63) (h:letters[j]?=some d):(⟨#[97,98,99,100,101,102,103,104,105,106,107,108,109,110,111,112,113,114,115,116,117,118,119,120,121,122,65,66,67,68,69,70,71,72,73,74,75,76,77,78,79,80,81,82,83,84,85,86,87,88,89,90,95,48,49,50,51,52,53,54,55,56,57]⟩:ByteArray)[j]'hj=d:=
 ad4 ((yZ (⟨#[97,98,99,100,101,102,103,104,105,106,107,108,109,110,111,112,113,114,115,116,117,118,119,120,121,122,65,66,67,68,69,70,71,72,73,74,75,76,77,78,79,80,81,82,83,84,85,86,87,88,89,90,95,48,49,50,51,52,53,54,55,56,57]⟩:ByteArray) j hj).symm.trans h)
theorem IK (s:ByteArray) (w:World) (hs:s.size<=1073741824):
  Calls Tryz.prog 51 #[.string s] w fun e w'=>e=.returned (.bool (Gr.bC s.data.toList))/\Below w.heap.size w w':=by
 obtain⟨R,hR⟩:=aj (Gr.bC s.data.toList);rw[hR];have HR:=ah hR;clear hR
 have hl:=Lib.size_eq s;have hg:=fun(k:Nat) (h:k<s.size)=>yZ s k h
 obtain⟨n,hn⟩:=aj s.size;rw[hn]at hl hs;have hu:=CX;by_cases h0:n=0
 ·subst h0
  have hr:R=false:=by rw[<-HR.out,adB hl.symm];exact aaG
  have HRR:=ah hr;clear hr hl hg hs;go_enter Tryz.func51,Tryz.ntmps51;go_wp2;go_ret
  exact⟨by rw[HRR.out];rfl,Below.refl _ _⟩
 have h0i:(1:Int)<=n:=by omega
 have t1:decide ((n:Int)<1)=false:=ac5 (by omega)
 by_cases kH:40<n
 ·have Lp:(40:Int)<n:=by omega
  have t40:decide ((40:Int)<n)=true:=adb Lp
  have hr:R=false:=by rw[<-HR.out];exact aaH (by omega)
  have HRR:=ah hr;clear hr hl hg h0 kH hs;go_enter Tryz.func51,Tryz.ntmps51;go_wp2;go_ret
  exact⟨by rw[HRR.out];rfl,Below.refl _ _⟩
 have Lp:(n:Int)<=40:=by omega
 have t40:decide ((40:Int)<n)=false:=ac5 (by omega)
 have HG:=ah hg;have HN:=ah hn;have dJ:=ah hl;have HU:=ah hu;clear hg hl
 go_enter Tryz.func51,Tryz.ntmps51;go_wp2_with fail
 go_loopg [3] n (fun kx x wr=> ∃k:Nat,x=.int .i64 k/\k+kx=n/\Below w.heap.size w wr/\Hid (∀(j:Nat) d,j<k->s.data.toList[j]?=some d->Lex.oG d=true/\(j=0->Num.bn d=false)))
 case atStart=>exact⟨0,rfl,by omega,by first|exact Below.refl _ _|exact(Below.refl _ _).drew,fun j d h=>absurd h (arv _)⟩
 obtain⟨k,rfl,hk,hb,hI⟩:=hrel;have HB:=ah hb;clear hb;cases gk with
 |zero=>
  obtain rfl:k=n:=by omega
  have hr:R=true:=by
   rw[<-HR.out];have hlt:0<s.size:=by rw[HN.out];omega
   have h0:=HG.out 0 hlt
   exact aaK h0 ((hI.out 0 _ (by omega) h0).2 rfl) (by rw[<-dJ.out];omega) (fun j d hj=>(hI.out j d (by have:=(adw.1 hj).1;rw[<-dJ.out]at this;exact this) hj).1)
  have HRR:=ah hr;clear hr;go_wp2;go_ret;exact⟨by rw[HRR.out];rfl,HB.out⟩
 |succ kq=>
  have hkn:k<s.size:=by rw[HN.out];omega
  have dH:(k:Int)<n:=by omega
  have pk:(0:Int)<=(k:Int):=by omega
  have tk:((k:Int)).toNat=k:=by omega
  obtain⟨c,hc⟩:=aj (s[k]'hkn)
  have HC:=ah (show s.data.toList[k]?=some c by rw[<-hc];exact HG.out k hkn)
  obtain⟨q,hq⟩:=aj (wX c);have HQ:=ah hq;have ap0:q<=63:=hq▸(IJ c).1;clear hq
  go_wp2_with fail
  go_loopg [4] q (fun jx x wr=> ∃j:Nat,x=.int .i64 j/\j+jx=q/\Below w.heap.size w wr)
  case atStart=>exact⟨0,rfl,by omega,HB.out⟩
  obtain⟨j,rfl,hj,hb⟩:=hrel;have HB2:=ah hb;clear hb;cases gk with
  |zero=>
   obtain rfl:j=q:=by omega
   have pj:(0:Int)<=(j:Int):=by omega
   have ttj:((j:Int)).toNat=j:=by omega
   by_cases h63:j=63
   ·subst h63
    have hr:R=false:=by rw[<-HR.out];exact aaJ HC.out ((IJ c).2.1.1 HQ.out)
    have HRR:=ah hr;clear hr hj pj ttj hk
    go_upto_region 7 with fail
    go_quiet (fail)
    go_wp2_with fail;go_ret
    exact⟨by rw[HRR.out];rfl,by first|exact HB2.out|exact below_drewN HB2.out _⟩
   have hjn:j<63:=by omega
   have nX:(j:Int)<63:=by omega
   have tj:decide ((j:Int)<63)=true:=adb nX
   have t63:((j:Int) == 63)=false:=adh.2 (by omega)
   have hd:=acr hjn (show letters[j]?=some c by rw[<-HQ.out];exact pos_at (by rw[HQ.out];exact hjn))
   have tn:((c.toNat:Int) !=c.toNat)=false:=by simp
   have hw:Lex.oG c=true:=by
    cases h:Lex.oG c with
    |true=>rfl
    |false=>exact absurd (HQ.symm.trans ((IJ c).2.1.2 h)) h63
   by_cases hdig:k=0/\52<j
   ·obtain⟨rfl,h52⟩:=hdig
    have t52:decide ((52:Int)<j)=true:=adb (by omega)
    have ap1:(52:Int)<j:=by omega
    have hr:R=false:=by
     rw[<-HR.out];refine aaI HC.out ?_
     rcases(IJ c).2.2.1 (by rw[HQ.out];exact h52) with h|h
     ·rw[h]at hw;cases hw
     exact h
    have HRR:=ah hr;clear hr hj hk hw h63 h52
    go_upto_region 7 with fail
    go_quiet (fail)
    go_wp2_with fail;go_ret
    exact⟨by rw[HRR.out];rfl,by first|exact HB2.out|exact below_drewN HB2.out _⟩
   have HI2:=ah (show∀(i:Nat) d,i<k+1->s.data.toList[i]?=some d->Lex.oG d=true/\(i=0->Num.bn d=false) from fun i d hi he=>by
    by_cases e:i=k
    ·subst e
     rw[HC.out]at he;cases he;refine⟨hw,fun e0=> ?_⟩
     cases h:Num.bn c with
     |false=>rfl
     |true=>exact absurd ⟨e0,by have:=(IJ c).2.2.2 (.inr h);rw[HQ.out]at this;exact this⟩ hdig
    exact hI.out i d (by omega) he)
   have HK:=ah hk
   have hor:k≠0\/(k=0/\ ¬52<j):=by
    by_cases e:k=0
    ·exact .inr ⟨e,fun h=>hdig ⟨e,h⟩⟩
    exact .inl e
   clear hj hk hw h63 hdig
   rcases hor with e|⟨rfl,e⟩
   ·have tk0:((k:Int) == 0)=false:=adh.2 (by omega)
    have tk1:(k:Int)≠0:=by omega
    clear e
    go_upto_region 7 with fail
    go_quiet (fail)
    go_wp2_with fail
    go_roundg kq
    case measure=>omega
    exact⟨k+1,by simp,by have:=HK.out;omega,by first|exact HB2.out|exact below_drewN HB2.out _,HI2.out⟩
   have t52:decide ((52:Int)<j)=false:=ac5 (by omega)
   have ap3:(j:Int)<=52:=by omega
   clear e
   go_upto_region 7 with fail
   go_quiet (fail)
   go_wp2_with fail
   go_roundg kq
   case measure=>omega
   exact⟨1,by simp,by have:=HK.out;omega,by first|exact HB2.out|exact below_drewN HB2.out _,HI2.out⟩
  |succ jq=>
   have hjn:j<63:=by omega
   have nX:(j:Int)<63:=by omega
   have tj:decide ((j:Int)<63)=true:=adb nX;have pj:(0:Int)<=(j:Int):=by omega
   have ttj:((j:Int)).toNat=j:=by omega
   obtain⟨d,hd,hne⟩:=alc (c:=c) (j:=j) (by rw[HQ.out];omega)
   have hd:=acr hjn hd
   have tn:((d.toNat:Int) !=c.toNat)=true:=by
    rw[adY];intro e;exact hne (afi.1 (Int.ofNat.inj e))
   have HJ:=ah hj;clear hj hne hk
   go_upto_region 7 with fail
   go_quiet (fail)
   go_wp2_with fail
   go_roundg jq
   case measure=>omega
   exact⟨j+1,by simp,by have:=HJ.out;omega,by first|exact HB2.out|exact below_drewN HB2.out _⟩
theorem acs (B:Nat) (A:Option Addr) (c:Nat) (ps:List Gr.P) (w:World) (h:bY w B 6 (aX w B) A ps) (hB:B<=w.heap.size) (hl:ps.length<=1073741824) (hs: ∀p∈ps,uF p):
  Calls Tryz.prog 55 #[.slice A ps.length c] w fun e w'=>e=.returned (.int .i64 (Gr.lQ ps:Nat))/\Below w.heap.size w w':=by
 obtain⟨R,hR⟩:=aj (Gr.lQ ps);rw[hR];unfold Gr.lQ at hR;obtain⟨n,hn⟩:=aj ps.length
 rw[hn]at hl hR⊢;have HH:=ah h;have HS:=ah hs;have HN:=ah hn;have HU:=ah CX
 by_cases h8:16<n
 ·rw[adk h8]at hR
  subst hR;have xZ:(16:Int)<n:=by omega
  have t8:decide ((16:Int)<n)=true:=adb xZ;clear h h8 hs hl
  go_enter Tryz.func55,Tryz.ntmps55;go_wp2;go_ret;exact⟨rfl,Below.refl _ _⟩
 rw[ade h8]at hR;have HR:=ah hR;have xZ:(n:Int)<=16:=by omega
 have t8:decide ((16:Int)<n)=false:=ac5 (by omega)
 clear h h8 hs hl hR;go_enter Tryz.func55,Tryz.ntmps55;go_wp2_with fail
 go_loopg [3] n (fun g x wr=> ∃k:Nat,x=.int .i64 k/\k+g=n/\Below w.heap.size w wr/\ ∀j a,j<k->ps[j]?=some a->Gr.kS (Gr.aH Gr.P.key ps j) a=0)
 case atStart=>exact⟨0,rfl,by omega,Below.refl _ _,fun j a h=>by omega⟩
 obtain⟨k,rfl,hk,hb,hz⟩:=hrel;have HK:=ah hk;have HZ:=ah hz;have HB:=ah hb;clear hz hb
 cases gk with
 |zero=>
  obtain rfl:k=n:=by omega
  have hr:=PI HN.out HR.out HZ.out;have HRR:=ah hr;clear hk hr;go_wp2;go_ret
  exact⟨by rw[HRR.out];rfl,HB.out⟩
 |succ g=>
  have hkn:k<n:=by omega
  have dH:(k:Int)<n:=by omega
  obtain⟨p,hp⟩: ∃p,ps[k]?=some p:=⟨_,dF (by rw[HN.out];exact hkn)⟩
  have HP:=ah hp;have FY:=HH.below (HB.mono hB) (aX.below (HB.mono hB))
  obtain⟨b,o,An,cn,At,ct,rfl,hbB,⟨c0,c1,c2,c3,c4,c5⟩,r1,r2⟩:=FY.prop hp
  obtain⟨z,hz⟩:=aj (⟨p.key.toArray⟩:ByteArray)
  obtain⟨zt,dU⟩:=aj (⟨p.val.text.toArray⟩:ByteArray);unfold ST at c0 c3;rw[hz]at c0
  rw[dU]at c3;clear hp hk hkn;have qo:=HS.out p (adI HP.out)
  have hBr:B<=wr.heap.size:=adg hB HB.size;have hzd:z.data.toList=p.key:=by rw[<-hz]
  obtain⟨Nm,F5⟩:=aj (Gr.bC p.key);obtain⟨CV,Jb⟩:=aj (ak.check p.val)
  have HC:=ah (IK z wr (by rw[Lib.size_eq,hzd];exact qo.key))
  rw[hzd,F5]at HC
  have HBC:=ah (fun(X:World) (hb:Below wr.heap.size wr X)=>show X.cell? ⟨b,o+k*6,none⟩=some (.string z)/\X.cell? ⟨b,o+k*6+1,none⟩=some (.int .i64 p.val.kind)/\X.cell? ⟨b,o+k*6+2,none⟩=some (.int .i64 p.val.num)/\X.cell? ⟨b,o+k*6+3,none⟩=some (.string zt)/\X.cell? ⟨b,o+k*6+4,none⟩=some (.slice An p.val.nums.length cn)/\X.cell? ⟨b,o+k*6+5,none⟩=some (.slice At p.val.texts.length ct) from
   have hl:=adW hbB hBr
   ⟨(hb.cell (p:=⟨b,o+k*6,none⟩) hl).trans c0,(hb.cell (p:=⟨b,o+k*6+1,none⟩) hl).trans c1,(hb.cell (p:=⟨b,o+k*6+2,none⟩) hl).trans c2,(hb.cell (p:=⟨b,o+k*6+3,none⟩) hl).trans c3,(hb.cell (p:=⟨b,o+k*6+4,none⟩) hl).trans c4,(hb.cell (p:=⟨b,o+k*6+5,none⟩) hl).trans c5⟩)
  have an2:=ah (fun(X:World) (hb:Below wr.heap.size wr X) (m:Nat)=>(show oV (X.drewN m) B (.agg #[.int .i64 p.val.kind,.int .i64 p.val.num,.string zt,.slice An p.val.nums.length cn,.slice At p.val.texts.length ct]) p.val by
   have:=((Df (cn:=cn) (ct:=ct) qo.val r1 r2).below (hb.mono hBr)).below (below_drewN (Below.refl B X) m)
   unfold ST at this
   rwa [dU]at this))
  have Q9:Hid (∀(X:World) (q:Gr.P) (m:Nat),Below wr.heap.size wr X->m<n->ps[m]?=some q->X.cell? ⟨b,o+m*6,none⟩=some (ST q.key)):=fun X q m hb hm hq=>by
   obtain⟨b',o',_,_,_,_,he,hlt,⟨e0,-⟩,-⟩:=FY.prop hq
   injection he with he
   injection he with he1 he2
   subst he1;subst he2;exact((hb.mono hBr).cell (by exact hlt)).trans e0
  have F6:=ah F5;have HZD:=ah hzd;have Jc:=ah Jb;have Gt:=ah hBr
  have ap4:(0:Int)<=(k:Int):=by omega
  have htk:((k:Int)).toNat=k:=by omega
  clear F5 Jb hz dU hzd FY r1 r2 hBr qo hbB;go_wp2_with fail;refine HC.mono ?_
  rintro e w1 ⟨rfl,hb1⟩;clear c0 c1 c2 c3 c4 c5;obtain⟨d0,d1,d2,d3,d4,d5⟩:=HBC.out w1 hb1
  have dZ:=ah (HB.trans (hb1.mono HB.size))
  have bf:=ah (fun(m:Nat)=>JJ B _ p.val (w1.drewN m) (an2.out w1 hb1 m) (adg Gt.out hb1.size))
  rw[Jc.out]at bf
  have vO:Hid (∀q:Gr.P,∀m:Nat,m<n->ps[m]?=some q->w1.cell? ⟨b,o+m*6,none⟩=some (ST q.key)):=fun q m hm hq=>Q9.out w1 q m hb1 hm hq
  clear hb1;cases Nm with
  |false=>
   have hr:=Dc HR.out HP.out HZ.out (e:=60) (by unfold Gr.kS;rw[F6.out,adk rfl]) (by decide)
   have HRR:=ah hr;clear hr;go_wp2;go_ret;exact⟨by rw[HRR.out];rfl,dZ.out⟩
  |true=>
   have Lr:=ah (fun(h:Gr.kS (Gr.aH Gr.P.key ps k) p=0)=>zf HP.out HZ.out h)
   have uG:=ah (fun(e:Nat) (h:Gr.kS (Gr.aH Gr.P.key ps k) p=e) (hne:e≠0)=>Dc HR.out HP.out HZ.out h hne)
   by_cases h0:k=0
   ·have hk0:(k:Int)<=0:=by omega
    have tk:decide (0<k)=false:=ac5 (by omega)
    have hpw:Gr.kS (Gr.aH Gr.P.key ps k) p=CV:=by
     subst h0;unfold Gr.kS;rw[F6.out,ade (by decide),ade (by simp[Gr.aH]),Jc.out]
    have qp:=ah hpw;clear h0 hpw
    go_upto_region 8 with fail
    go_quiet (fail)
    go_wp2_with fail;refine(bf.out _).mono ?_;rintro e w4 ⟨rfl,hb4⟩
    have HB4:=ah (pV (below_drewN dZ.out nq) hb4);clear hb4;cases CV with
    |zero=>
     have HM:=ah (Lr.out qp.out);go_wp2
     go_roundg g
     case measure=>omega
     exact⟨k+1,int_eq (by omega),by have:=HK.out;omega,HB4.out,HM.out⟩
    |succ e=>
     have hr:=uG.out (e+1) qp.out (by omega)
     have HRR:=ah hr;have hne:(((e+1:Nat):Int) !=0)=true:=by rw[adY];omega
     clear hr;go_wp2;go_ret;exact⟨by rw[HRR.out];rfl,HB4.out⟩
   obtain⟨m,hm⟩: ∃m,k=m+1:=⟨k - 1,by omega⟩
   have tk:decide (0<k)=true:=adb (by omega)
   have hkp:(0:Int)<k:=by omega
   have hsub:(k:Int) - 1=(m:Int):=by omega
   have hmn:(m:Int)<n:=by omega
   have Ls:m<n:=by omega
   obtain⟨q,hq⟩: ∃q,ps[m]?=some q:=⟨_,dF (by omega)⟩
   have e0:=vO.out q m Ls hq;unfold ST at e0
   obtain⟨zq,qU⟩:=aj (⟨q.key.toArray⟩:ByteArray);have x8:zq.toList=q.key:=by rw[<-qU,rZ]
   rw[qU]at e0;obtain⟨b1,hb1⟩:=aj (Op.bytesLess z.toList zq.toList)
   obtain⟨b2,hb2⟩:=aj (z.toList == zq.toList)
   have hb:decide (p.key<=q.key)=(b1 || b2):=by rw[<-hb1,<-hb2,Iw,x8,Lib.toList_data,HZD.out]
   have hpw:Gr.kS (Gr.aH Gr.P.key ps k) p=if(b1 || b2)=true then 6 else CV:=by
    have hpv:Gr.aH Gr.P.key ps k=some q.key:=by rw[hm];show ps[m]?.map Gr.P.key=_;rw[hq];rfl
    unfold Gr.kS;rw[F6.out,hpv,ade (by decide),<-hb,Jc.out]
    rfl
   have qp:=ah hpw;clear h0 hpw hq qU x8 hb hm Ls
   have oU:=ah (show(b1 || b2)=true->R=6 from fun h=>uG.out 6 (by rw[qp.out,h];rfl) (by decide))
   cases b1 with
   |true=>
    have hr:=oU.out rfl;have HRR:=ah hr;clear hr
    go_upto_region 8 with fail
    go_quiet (fail)
    go_wp2;go_ret;exact⟨by rw[HRR.out];rfl,below_drewN dZ.out _⟩
   |false=>
    cases b2 with
    |true=>
     have hr:=oU.out rfl;have HRR:=ah hr;clear hr
     go_upto_region 8 with fail
     go_quiet (fail)
     go_wp2;go_ret;exact⟨by rw[HRR.out];rfl,below_drewN dZ.out _⟩
    |false=>
     go_upto_region 8 with fail
     go_quiet (fail)
     go_wp2_with fail;refine(bf.out _).mono ?_;rintro e w4 ⟨rfl,hb4⟩
     have HB4:=ah (pV (below_drewN dZ.out nq) hb4);clear hb4;cases CV with
     |zero=>
      have HM:=ah (Lr.out qp.out);go_wp2
      go_roundg g
      case measure=>omega
      exact⟨k+1,int_eq (by omega),by have:=HK.out;omega,HB4.out,HM.out⟩
     |succ e=>
      have hr:=uG.out (e+1) qp.out (by omega)
      have HRR:=ah hr;have hne:(((e+1:Nat):Int) !=0)=true:=by rw[adY];omega
      clear hr;go_wp2;go_ret;exact⟨by rw[HRR.out];rfl,HB4.out⟩
theorem Reads.head {W:World} {B n q b o:Nat} {xs:List Value} (h:Reads W B 1 (some ⟨b,o,none⟩) n xs) (hq:q<=n):Reads W B 1 (some ⟨b,o,none⟩) q (xs.take q):=by
 refine⟨by rw[aeb,h.1];omega,fun h0=> ?_⟩
 obtain⟨b',o',e,hb,hc⟩:=h.2 (by omega)
 cases e
 exact⟨b,o,rfl,hb,fun j u hu=>hc j u (by
  rw[List.getElem?_take]at hu
  split at hu
  ·exact hu
  cases hu)⟩
theorem Reads.tail {W:World} {B n q b o:Nat} {xs:List Value} (h:Reads W B 1 (some ⟨b,o,none⟩) n xs) (hq:q<=n):Reads W B 1 (some ⟨b,o+q,none⟩) (n - q) (xs.drop q):=by
 refine⟨by rw[aej,h.1];omega,fun h0=> ?_⟩
 obtain⟨b',o',e,hb,hc⟩:=h.2 (by omega)
 cases e
 exact⟨b,o+q,rfl,hb,fun j u hu=>by
  rw[agh]at hu;have:=hc _ u hu
  rwa [<-amQ]at this⟩
def acu (w:World) (s:List (List UInt8)) (e:Ending) (w':World):Prop:= ∃(A':Option Addr) (c' m:Nat) (out:List (List UInt8)),e=.returned (.slice A' m c')/\out.length=m/\w'.ownsRow w.heap.size 9 1 (.slice A' m c') m (out.map ST)/\Gr.bJ s out/\Below w.heap.size w w'
theorem acv (l:List (List UInt8)): ∀u∈l.map ST,u.oneCell'=true:=fun u hu=>by
 obtain⟨x,-,rfl⟩:=afK.1 hu;rfl
theorem acw (B:Nat) (A:Option Addr) (c n:Nat) (s:List (List UInt8)) (w:World) (h:Reads w B 1 A n (s.map ST)) (hl:s.length=n) (hB:B<=w.heap.size) (hn:n<2):
  Calls Tryz.prog 95 #[.slice A n c] w (acu w s):=by
 obtain⟨i0,hi,hz0,hz1,hz2⟩:=info_parts Ah
 have HH:=ah (h.below ((Below.refl B w).alloc hB (.cells #[] 9)));have H1:=ah (acv s)
 have nH:=ah (oM w 9 1);have mD:=ah (show 0+n<=maxLen by unfold maxLen;omega)
 have HL2:=ah (show(0+n)*16<=140737488355328 by omega)
 have jE:=ah (Gr.bJ.small (s:=s) (by omega))
 have HL:=ah hl;have BO:(n:Int)<2:=by omega
 have t2:decide ((n:Int)<2)=true:=adb BO;clear h hn hl;go_enter Tryz.func95,Tryz.ntmps95
 go_wp2_with (at_builtin;refine y5 (w.alloc (.cells #[] 9)) rfl (.tmp 12) (.tmp 13) 34 rfl w.heap.size 9 i0 (.string ⟨#[]⟩) 1 16 Tryz.underlying34 hi hz0 hz1 hz2 rfl (by decide) (.slice (some ⟨w.heap.size,0,none⟩) 0 0) 0 [] rfl nH.out B A n c (s.map ST) rfl HH.out H1.out mD.out HL2.out (by simp) ?_)
 intro v9 w9 aJ bI dD;obtain⟨A9,c9,rfl⟩:=aF aJ;have fJ:=ah aJ
 have bg:=ah (((Below.refl w.heap.size w).alloc (ac4 _) (.cells #[] 9)).grown bI (by simp) (fun j e=>by cases e;exact ac4 _))
 clear aJ bI dD;go_wp2;go_ret;exact⟨A9,c9,n,s,rfl,HL.out,fJ.out,jE.out,bg.out⟩
theorem U8: ∀l:List (List UInt8),(Gr.dedup l).length<=l.length
 |[]=>ac4 _
 |a :: r=>by
  have:=U8 r;rw[Gr.dedup]
  split<;>simp only[adQ]<;>omega
structure zV (w2:World) (a b:List (List UInt8)) (i j:Nat) (out:List (List UInt8)) (A:Option Addr) (c m:Nat) (V:World):Prop where
 le:m<=i+j
 len:out.length=m
 own:V.ownsRow w2.heap.size 9 1 (.slice A m c) m (out.map ST)
 mrg:Gr.jW a b i j out
 bel:Below w2.heap.size w2 V
theorem zV.add {w2 V V':World} {a b out:List (List UInt8)} {i j i' j' m c c':Nat} {A A':Option Addr} {x:List UInt8} {z:ByteArray} (h:zV w2 a b i j out A c m V) (hz:(⟨x.toArray⟩:ByteArray)=z) (hm:Gr.jW a b i' j' (out++[x])) (hle:m+1<=i'+j') (ho:V'.ownsRow w2.heap.size 9 1 (.slice A' (m+1) c') (m+1) (out.map ST++[.string z])) (hb:Below w2.heap.size V V'):zV w2 a b i' j' (out++[x]) A' c' (m+1) V':=
 ⟨hle,by rw[adf,h.len];rfl,by rw[ad8,aoX,ST,hz];exact ho,hm,h.bel.trans hb⟩
theorem zV.below {w2 V V':World} {a b out:List (List UInt8)} {i j m c:Nat} {A:Option Addr} (h:zV w2 a b i j out A c m V) (hb:Below V.heap.size V V'):zV w2 a b i j out A c m V':=
 ⟨h.le,h.len,aW h.own (dL hb none) (fun g c t fz e=>by cases e),h.mrg,h.bel.trans (hb.mono h.bel.size)⟩
theorem Qb {W:World} {B la i:Nat} {A:Option Addr} {xa:List (List UInt8)} (h:Reads W B 1 A la (xa.map ST)) (hi:i<la): ∃pa oa x z,A=some ⟨pa,oa,none⟩/\W.cell? ⟨pa,oa+i,none⟩=some (.string z)/\(⟨x.toArray⟩:ByteArray)=z/\xa[i]?=some x:=by
 obtain⟨p,o,u,e,-,hx,hp⟩:=h.cell hi;rw[adX]at hx;obtain⟨x,hx2,rfl⟩:=ae4.1 hx
 exact⟨p,o,x,_,e,hp,rfl,hx2⟩
theorem ald: ∀(m B:Nat) (A:Option Addr) (c n:Nat) (s:List (List UInt8)) (w:World),n<=m->Reads w B 1 A n (s.map ST)->s.length=n->B<=w.heap.size->n<=c->n<=1073741800->
  Calls Tryz.prog 95 #[.slice A n c] w (acu w s):=by
 intro m
 induction m with
 |zero=>
  intro B A c n s w hm h hl hB hc hn;exact acw B A c n s w h hl hB (by omega)
 |succ m ih=>
 intro B A c n s w hm h hl hB hc hn;by_cases h2:n<2
 ·exact acw B A c n s w h hl hB h2
 obtain⟨b,o,rfl,-,-⟩:=h.2 (by omega)
 obtain⟨q,hq⟩:=aj (n / 2);have hq1:q<=n:=by omega
 have hcq: ¬c=q:=by omega
 have hq0: ¬q=0:=by omega
 have hqI:(n:Int).tdiv 2=(q:Int):=by rw[<-hq];exact(arx n 2).symm
 have an4:(q:Int)<=n:=by omega
 have an5:(n:Int)<=c:=by omega
 have an6:(q:Int)<=c:=by omega
 have tq:((q:Int)).toNat=q:=by omega
 have BO:(2:Int)<=n:=by omega
 have hnB:(n:Int)<=1073741800:=by omega
 have t2:decide ((n:Int)<2)=false:=ac5 (by omega)
 have aeO:=ih B (some ⟨b,o,none⟩) c q (s.take q) w (by omega) (by rw[aoV];exact h.head hq1) (by rw[aeb];omega) hB (by omega) (by omega)
 have aeP:=fun(V:World) (hb:Below w.heap.size w V)=>ih B (some ⟨b,o+q,none⟩) (c - q) (n - q) (s.drop q) V (by omega) (by rw[aq9];exact(h.below (hb.mono hB)).tail hq1) (by rw[aej];omega) (adg hB hb.size) (by omega) (by omega)
 have kV:=ah aeO;have HC2:=ah aeP
 have sV:=ah (show∀x,x∈s↔x∈s.take q\/x∈s.drop q from fun x=>by conv=>lhs;rw[<-aeN q s];rw[aem])
 have dN:=ah hl;clear ih aeO aeP h hm hl hq h2 hc hn hB;go_enter Tryz.func95,Tryz.ntmps95
 go_wp2_with fail;refine kV.mono ?_;rintro e w1 ⟨A1,c1,la,xa,rfl,hla,oa,sa,b1⟩
 have HA:=ah (And.intro hla (And.intro oa (And.intro sa b1)));clear hla oa sa b1
 go_wp2_with fail;refine(HC2.out w1 HA.out.2.2.2).mono ?_
 rintro e w2 ⟨A2,c2,lb,xb,rfl,hlb,ob,sb,b2⟩
 have hla:la<=q:=by rw[<-HA.out.1,HA.out.2.2.1.length];exact adg (U8 _) (by rw[aeb];omega)
 have Xi:lb<=n - q:=by rw[<-hlb,sb.length];exact adg (U8 _) (by rw[aej,dN.out];omega)
 have hab:la+lb<=1073741800:=by omega
 have HB2:=ah (HA.out.2.2.2.trans (b2.mono HA.out.2.2.2.size))
 have dS:=ah (show Reads w2 w2.heap.size 1 A1 la (xa.map ST) from((Reads.dI HA.out.2.1).below b2).more b2.size)
 have iI:=ah (show Reads w2 w2.heap.size 1 A2 lb (xb.map ST) from Reads.dI ob)
 have Jo:=ah (And.intro HA.out.1 hlb);have uI:=ah (And.intro HA.out.2.2.1 sb)
 have yG:=ah (show zV w2 xa xb 0 0 [] (some ⟨w2.heap.size,0,none⟩) 0 0 (w2.alloc (.cells #[] 9)) from⟨ac4 _,rfl,oM w2 9 1,Gr.jW.start _ _,(Below.refl _ w2).alloc (ac4 _) _⟩)
 clear hla Xi hlb ob sb b2 kV HC2 HA hqI an4 an5 an6 tq BO hnB t2 hq1 hcq hq0
 go_wp2_with fail
 go_loopg [5,6,7] (la+lb) (fun g v x y wr=> ∃(i j m:Nat) (A':Option Addr) (c':Nat) (out:List (List UInt8)),v=.slice A' m c'/\x=.int .i64 i/\y=.int .i64 j/\i+j+g=la+lb/\i<=la/\j<=lb/\zV w2 xa xb i j out A' c' m wr)
 case atStart=>exact⟨0,0,0,_,_,[],rfl,rfl,rfl,by omega,by omega,by omega,yG.out⟩
 obtain⟨i,j,m,A',c',out,rfl,rfl,rfl,hk,hil,hjl,hst⟩:=hrel;have HST:=ah hst;clear hst yG
 cases gk with
 |zero=>
  obtain rfl:i=la:=by omega
  obtain rfl:j=lb:=by omega
  have hm:=HST.mrg;have hla:=Jo.out.1;have hlb:=Jo.out.2
  have hd:Gr.bJ s out:=Gr.jW.done (a:=xa) (b:=xb) (by rw[hla,hlb];exact hm) (fun x=>by rw[uI.out.1.2 x,uI.out.2.2 x];exact sV.out x)
  have HD:=ah hd;clear hk hil hjl hd hm hla hlb;go_wp2;go_ret
  exact⟨A',c',m,out,rfl,HST.len,own_base HST.own HB2.size,HD.out,HB2.trans (HST.bel.mono HB2.size)⟩
 |succ g=>
  have HK:=ah hk;have hij:i<la\/j<lb:=by omega
  have hlI:(la:Int)<=1073741800:=by omega
  have Ja:(lb:Int)<=1073741800:=by omega
  have vI:=ah (show Below w2.heap.size w2 wr from HST.bel)
  have hc:(i<la/\j=lb)\/(i=la/\j<lb)\/(i<la/\j<lb):=by omega
  have an7:=HST.le;have ad6:(m:Int)<=1073741800:=by omega
  refine Or.elim hc ?c1 (fun h=>Or.elim h ?c2 ?c3)
  case' c1=>
   rintro⟨h1,rfl⟩;have MX:(i:Int)<la:=by omega
   have t1:decide ((i:Int)<la)=true:=adb MX;have t3:((j:Int) ==(j:Int))=true:=by simp
   obtain⟨pa,oa,x,z,rfl,hp,hz,hx⟩:=Qb (dS.below vI.out) h1
   have hm:=HST.mrg.step uI.out.1.1 hx (fun y hy=>by rw[<-Jo.out.2,arj]at hy;cases hy)
   have HM:=ah (show(out.getLast?=some x->Gr.jW xa xb (i+1) j out)/\(out.getLast?≠some x->Gr.jW xa xb (i+1) j (out++[x])) from hm)
   obtain⟨i',hi'⟩:=aj (i+1);obtain⟨j',hj'⟩:=aj j;rw[hi',hj']at HM
   have HN:=ah (show i'+j'+g=la+j/\i'<=la/\j'<=j/\m+1<=i'+j' by omega)
   have HI:=ah (show i+1=i'/\j=j' from⟨hi',hj'⟩)
   clear h1 hx hm hi' hj'
  case' c2=>
   rintro⟨rfl,h1⟩;have MX:(j:Int)<lb:=by omega
   have t1:decide ((i:Int)<(i:Int))=false:=ac5 (by omega)
   have t2:decide ((j:Int)<lb)=true:=adb MX
   have t3:((j:Int) ==(lb:Int))=false:=adh.2 (by omega)
   obtain⟨pa,oa,x,z,rfl,hp,hz,hx⟩:=Qb (iI.below vI.out) h1
   have hm:=HST.mrg.symm.step uI.out.2.1 hx (fun y hy=>by rw[<-Jo.out.1,arj]at hy;cases hy)
   have HM:=ah (show(out.getLast?=some x->Gr.jW xa xb i (j+1) out)/\(out.getLast?≠some x->Gr.jW xa xb i (j+1) (out++[x])) from⟨fun h=>(hm.1 h).symm,fun h=>(hm.2 h).symm⟩)
   obtain⟨i',hi'⟩:=aj i;obtain⟨j',hj'⟩:=aj (j+1)
   have HI:=ah (show i=i'/\j+1=j' from⟨hi',hj'⟩)
   rw[hi',hj']at HM;have HN:=ah (show i'+j'+g=i+lb/\i'<=i/\j'<=lb/\m+1<=i'+j' by omega)
   clear h1 hx hm hi' hj'
  case' c3=>
   rintro⟨h1,h2⟩;have MX:(i:Int)<la:=by omega
   have h2I:(j:Int)<lb:=by omega
   have t1:decide ((i:Int)<la)=true:=adb MX;have t2:decide ((j:Int)<lb)=true:=adb h2I
   have t3:((j:Int) ==(lb:Int))=false:=adh.2 (by omega)
   obtain⟨pa,oa,xx,za,rfl,hp,hz,hx⟩:=Qb (dS.below vI.out) h1
   obtain⟨pb,ob,xy,zb,rfl,hpb,hzb,hxb⟩:=Qb (iI.below vI.out) h2
   obtain⟨b1,hb1⟩:=aj (Op.bytesLess za.toList zb.toList)
   obtain⟨b2,hb2⟩:=aj (za.toList == zb.toList)
   have hb:decide (xx<=xy)=(b1 || b2):=by rw[<-hb1,<-hb2,Iw,<-hz,<-hzb,rZ,rZ]
   have aeQ:=ah hb;have HX:=ah (And.intro hx (And.intro hxb (And.intro hz hzb)))
   have hNa:i+1+j+g=la+lb/\i+1<=la/\j<=lb/\m+1<=i+1+j:=by omega
   have hNb:i+(j+1)+g=la+lb/\i<=la/\j+1<=lb/\m+1<=i+(j+1):=by omega
   have Xj:=ah hNa;have iW:=ah hNb;clear hb hx hxb hz hzb h1 h2 hNa hNb
   refine Or.elim (show(b1=true/\b2=true)\/(b1=true/\b2=false)\/(b1=false/\b2=true)\/(b1=false/\b2=false) from by cases b1<;>cases b2<;>simp) ?d1 (fun h=>Or.elim h ?d2 (fun h=>Or.elim h ?d3 ?d4))
  case' d1|d2|d3=>
   rintro⟨rfl,rfl⟩
   have hm:=HST.mrg.step uI.out.1.1 HX.out.1 (Gr.aco uI.out.2.1 HX.out.2.1 (adN aeQ.out))
   have HM:=ah (show(out.getLast?=some xx->Gr.jW xa xb (i+1) j out)/\(out.getLast?≠some xx->Gr.jW xa xb (i+1) j (out++[xx])) from hm)
   have hz:=HX.out.2.2.1;obtain⟨i',hi'⟩:=aj (i+1);obtain⟨j',hj'⟩:=aj j
   rw[hi',hj']at HM
   have HN:=ah (show i'+j'+g=la+lb/\i'<=la/\j'<=lb/\m+1<=i'+j' by have:=Xj.out;omega)
   have HI:=ah (show i+1=i'/\j=j' from⟨hi',hj'⟩)
   obtain⟨x,hx⟩: ∃x,x=xx:=⟨_,rfl⟩;obtain⟨z,hzz⟩: ∃z,z=za:=⟨_,rfl⟩;subst hx hzz
   clear hm hi' hj'
  case' d4=>
   rintro⟨rfl,rfl⟩
   have hm:=HST.mrg.symm.step uI.out.2.1 HX.out.2.1 (Gr.aco uI.out.1.1 HX.out.1 (aoU (aq0.1 (adM aeQ.out))))
   have HM:=ah (show(out.getLast?=some xy->Gr.jW xa xb i (j+1) out)/\(out.getLast?≠some xy->Gr.jW xa xb i (j+1) (out++[xy])) from⟨fun h=>(hm.1 h).symm,fun h=>(hm.2 h).symm⟩)
   have hz:=HX.out.2.2.2;obtain⟨i',hi'⟩:=aj i;obtain⟨j',hj'⟩:=aj (j+1)
   have HI:=ah (show i=i'/\j+1=j' from⟨hi',hj'⟩)
   rw[hi',hj']at HM
   have HN:=ah (show i'+j'+g=la+lb/\i'<=la/\j'<=lb/\m+1<=i'+j' by have:=iW.out;omega)
   obtain⟨x,hx⟩: ∃x,x=xy:=⟨_,rfl⟩;obtain⟨z,hzz⟩: ∃z,z=zb:=⟨_,rfl⟩;subst hx hzz
   clear hm hi' hj'
  all_goals
   have HZ:=ah hz;clear hz hc hil hjl an7
   go_upto_region 9 with fail
   go_quiet (fail)
   go_upto_region 14 with fail
   obtain⟨W5,bZ⟩:=aj (wr.drewN nq)
   have dw:=ah (show zV w2 xa xb i j out A' c' m W5 from bZ▸HST.below (below_drewN (Below.refl _ _) nq))
   rw[bZ];clear bZ hp
   rcases afv m with h0|h0
   ·subst h0
    have ho:out=[]:=adB dw.len;have oZ:=ah (HM.out.2 (by rw[ho];simp))
    clear ho
    go_wp2_with (at_builtin;refine fD rfl (.tmp 84) (.tmp 86) 34 9 (.string ⟨#[]⟩) 16 Tryz.underlying34 Ah rfl (by decide) rfl w2.heap.size (.slice A' 0 c') 0 (out.map ST) W5 rfl dw.own (.string z) rfl rfl (by decide) dw.bel.size ?_)
    intro v9 w9 aG aN gG aB;obtain⟨A9,c9,rfl⟩:=aF aG
    have HE:=ah (dw.add HZ.out oZ.out HN.out.2.2.2 aG aB);clear aG aN gG aB;go_wp2
    go_roundg g
    case measure=>omega
    exact⟨i',j',_,A9,c9,_,rfl,int_eq (by have:=HI.out;omega),int_eq (by have:=HI.out;omega),HN.out.1,HN.out.2.1,HN.out.2.2.1,HE.out⟩
   obtain⟨m',hm'⟩: ∃m',m=m'+1:=⟨m - 1,by omega⟩
   obtain⟨y,hy⟩: ∃y,out[m']?=some y:=⟨_,dF (by rw[dw.len];omega)⟩
   have hlast:out.getLast?=some y:=by rw[aqJ,dw.len,hm'];exact hy
   obtain⟨gb,rfl,-,hcell,-⟩:=Ag dw.own (t:=m') (by omega)
   obtain⟨zy,hzy⟩:=aj (⟨y.toArray⟩:ByteArray);rw[adX,hy]at hcell
   simp only[afs,ST,hzy]at hcell;have tm:((m:Int) == 0)=false:=adh.2 (by omega)
   have hsub:(m:Int) - 1=(m':Int):=by omega
   have pm:(0:Int)<=(m':Int):=by omega
   have tmn:((m':Int)).toNat=m':=by omega
   have ap7:(m':Int)<(m:Int):=by omega
   have hm1:(1:Int)<=(m:Int):=by omega
   have hml:m<1073741824:=by omega
   have BF:=ah hml;obtain⟨bq,hbq⟩:=aj (zy.toList == z.toList)
   have hbx:(y == x)=bq:=by rw[<-hbq,<-hzy,<-HZ.out,rZ,rZ]
   cases bq with
   |true=>
    obtain rfl:y=x:=aeI.1 hbx
    have HE:=ah (show zV w2 xa xb i' j' out (some ⟨gb,0,none⟩) c' m W5 from⟨anW HN.out.2.2.2,dw.len,dw.own,HM.out.1 hlast,dw.bel⟩)
    clear hlast hy hzy h0 hbx hm' hml;go_wp2
    go_roundg g
    case measure=>omega
    exact⟨i',j',_,_,c',_,rfl,int_eq (by have:=HI.out;omega),int_eq (by have:=HI.out;omega),HN.out.1,HN.out.2.1,HN.out.2.2.1,HE.out⟩
   |false=>
    have oZ:=ah (HM.out.2 (by rw[hlast];intro e;cases e;simp at hbx))
    clear hlast hy hzy h0 hbx hm' hml
    go_wp2_with (at_builtin;refine fD rfl (.tmp 84) (.tmp 86) 34 9 (.string ⟨#[]⟩) 16 Tryz.underlying34 Ah rfl (by decide) rfl w2.heap.size (.slice (some ⟨gb,0,none⟩) m c') m (out.map ST) W5 rfl dw.own (.string z) rfl rfl BF.out dw.bel.size ?_)
    intro v9 w9 aG aN gG aB;obtain⟨A9,c9,rfl⟩:=aF aG
    have HE:=ah (dw.add HZ.out oZ.out HN.out.2.2.2 aG aB);clear aG aN gG aB;go_wp2
    go_roundg g
    case measure=>omega
    exact⟨i',j',_,A9,c9,_,rfl,int_eq (by have:=HI.out;omega),int_eq (by have:=HI.out;omega),HN.out.1,HN.out.2.1,HN.out.2.2.1,HE.out⟩
end Go.Proofs.YtkdakckjafomhaaGreatDoor
