/- Contracts and plain laws,part 22. -/
import Derived.Test.YtkdakckjafomhaaGreatDoorUW21
set_option maxHeartbeats 64000000
set_option maxRecDepth 1000000
set_option linter.all false
namespace Go.Proofs.YtkdakckjafomhaaGreatDoor.pz
open Go Go.Shelf Go.RowKit Go.Lib Go.Sort Go.Proofs Go.Proofs.YtkdakckjafomhaaGreatDoor.fK
variable {P:Program} {ρ:Ren} {α:Type} [Inhabited α]
theorem QF {x y z:Nat} (h:(x+y) / 2=z) (hb:x+y<4611686018427387904):IntKind.i64.wrap ((x:Int)+(y:Int))=(x:Int)+(y:Int)/\IntKind.u64.wrap ((x:Int)+(y:Int))=(x:Int)+(y:Int)/\(((x:Int)+(y:Int)) / 2=(z:Int))/\IntKind.i64.wrap (z:Int)=(z:Int)/\IntKind.u64.wrap (z:Int)=(z:Int):=by
 refine⟨by rw[IntKind.wrap_i64];omega, ?_,by omega,by rw[IntKind.wrap_i64];omega, ?_⟩
 ·unfold IntKind.wrap;simp[IntKind.signed,IntKind.bits];omega
 unfold IntKind.wrap;simp[IntKind.signed,IntKind.bits];omega
theorem symMerge {k:Nat} (L:uj P ρ k) (FG:Bd P ρ 219 Tryz.f219) (FR:Bd P ρ 180 Tryz.f180) (FS:Bd P ρ 136 Tryz.f136)
  {le:α->α->Bool} (hT:Tot le) {enc:α->List Value} {cf:α->α->Int} (hcf: ∀x y,ltOf cf x y= !le y x) {g:Nat} {cb:Array Value} (eg: ∀args w,(callFunc g args).run P w=.ok (.enter g args) w) {blk off cap n:Nat} {d0:Array α} {w0:World} (hC:CmpLays P g cb enc k cf blk off n w0) (R:RowK enc k w0 blk off d0) (hn:d0.size=n) (hsz:n<2305843009213693952):
  ∀(N a m b:Nat) (d:Array α) (w:World) (p A B s:List α),b - a<=N->d.size=n->SWK enc k w0 blk off d w->d.toList=p ++(A ++(B++s))->p.length=a->a+A.length=m->m+B.length=b->A≠ []->B≠ []->bJ le A->bJ le B->
  Calls P (ρ.f 136) #[.slice (some ⟨blk,off,none⟩) n cap,.int .i64 a,.int .i64 m,.int .i64 b,.func (.func g) #[] cb] w fun e w'=>e=.returned (.tuple #[])/\ ∃d' C,d'.size=n/\SWK enc k w0 blk off d' w'/\d'.toList=p ++(C++s)/\bJ le C/\C.Perm (A++B):=by
 intro N
 induction N with
 |zero=>
  intro a m b d w p A B s hN hs S hl ha hA hB hA0 hB0;have:=aeX.2 hA0;omega
 |succ N ih=>
 intro a m b d w p A B s hN hs S hl ha hA hB hA0 hB0 sA sB
 have mixed:=L.mixed;have t0:=L.t0;have a0:=L.a0;have z0:=L.z0;have v0:=L.v0;have t3:=L.t3;have a3:=L.a3;have z3:=L.z3;have v3:=L.v3;have t4:=L.t4;have a4:=L.a4;have z4:=L.z4;have v4:=L.v4;have t5:=L.t5;have a5:=L.a5;have z5:=L.z5;have v5:=L.v5;have t22:=L.t22;have a22:=L.a22;have z22:=L.z22;have v22:=L.v22;have t25:=L.t25;have a25:=L.a25;have z25:=L.z25;have v25:=L.v25;have aE:=L.aE;have zE:=L.zE
 have u22:=run_underlying L.t22
 have eR: ∀args w,(callFunc (ρ.f 180) args).run P w=.ok (.enter (ρ.f 180) args) w:=FR.enters rfl
 have eS: ∀args w,(callFunc (ρ.f 136) args).run P w=.ok (.enter (ρ.f 136) args) w:=FS.enters rfl
 have hlen:=aeH List.length hl;simp only[afS,adf]at hlen;have hAl:=aeX.2 hA0
 have hBl:=aeX.2 hB0;have ham:a<m:=by omega
 have hmb:m<b:=by omega
 have hbn:b<=n:=by omega
 have S0:Aside (SWK enc k w0 blk off d w):=S;have HC:Aside _:=hC;have sO:=ah hcf
 have yg:=ah hT;have IH:=ah ih;have HL:=ah hl;have HP:=ah ha;have HA:=ah hA;have HB:=ah hB
 have uI:=ah sA;have Bc:=ah sB;have HA0:=ah hA0;have HB0:=ah hB0;have HS:=ah hs
 have HN:=ah hn;have aC:=ah hN
 clear hcf hT ih hl ha hA hB sA sB hA0 hB0 hs hn S hlen hAl hBl hN hC
 obtain⟨nm,tg,ps,rt,-,FX⟩:=FS;simp only[Tryz.f136,afs,qy,DW,Dj,DV,jD,aeR,afX]at FX
 go_enter FX,ae8;by_cases h1:m=a+1
 ·have i1:(m:Int) -(a:Int)=1:=by omega
  have VZ: ∃e,A=[e]:=by
   have:=HA.out
   match A,this with
   |[e],_=>exact⟨e,rfl⟩
   |[],h=>simp at h;omega
   |_ :: _ :: _,h=>simp at h;omega
  obtain⟨e0,VZ⟩:=VZ;subst VZ
  have V6:=ah (Go.Proofs.YtkdakckjafomhaaGreatDoor.fK.get_at (d:=d) (p:=p) (s:=B++s) (x:=e0) HL.out HP.out).1
  have H1:=ah h1;clear h1;go_wp2_with fail
  go_loopg [10,11] (b - m) (fun kx s10 s11 wr=> ∃(i j:Nat),s10=.int .i64 i/\s11=.int .i64 j/\m<=i/\i<=j/\j<=b/\j - i<=kx/\Aside (SWK enc k w0 blk off d wr)/\Hid ((i=m\/le d[i - 1]! e0=true)/\(j=b\/le e0 d[j]! =true)))
  case atStart=>exact⟨m,b,rfl,rfl,ac4 _,by omega,ac4 _,ac4 _,S0,.inl rfl,.inl rfl⟩
  clear S0;obtain⟨i,j,rfl,rfl,xu,hij,hjb,hk,S1,HQ⟩:=hrel;by_cases hlt:i<j
  ·have QG:(i:Int)<j:=by omega
   obtain⟨h,hh⟩:=aj ((i+j) / 2);obtain⟨q1,q2,q3,q4,q5⟩:=QF hh (by omega)
   have hi1:i<=h:=by omega
   have hj1:h<j:=by omega
   have hhI:(h:Int)<(n:Int):=by omega
   have haI:(a:Int)<(n:Int):=by omega
   have h0I:(0:Int)<=(h:Int):=by omega
   obtain⟨xh,hxh⟩:=aj (d[h]!)
   have lh:=fun n' os'=>S1.out.ld R (by rw[HS.out,HN.out]) P h (by rw[HS.out];omega) n' os'
   have la:=fun n' os'=>S1.out.ld R (by rw[HS.out,HN.out]) P a (by rw[HS.out];omega) n' os'
   rw[hxh]at lh;rw[show d[a]! =e0 from V6.out]at la
   have hcg:=fun n' os'=>S1.out.cmp HC.out HS.out xh e0 n' os'
   have vS:=ah hxh;have HHH:=ah hh
   have S2:Aside (∀n' os',SWK enc k w0 blk off d (grow (wr.drewN n') os')):=fun n' os'=>S1.out.grown n' os'
   clear hxh hh S1;by_cases hlv:cf xh e0<0
   ·have jm:=ah (show le xh e0=true by
     have h1:=sO.out xh e0;rw[show ltOf cf xh e0=true from adb hlv]at h1
     exact yg.total (by cases h2:le e0 xh with|false=>rfl|true=>rw[h2]at h1;exact absurd h1 (by decide)))
    go_wp2_with fail
    go_quiet_grown (first|(go_at_fn g;refine Calls.grown_of (hcg _ _)))
    have S3:Aside _:=S2.out nq osq;clear lh la hcg S2
    generalize grow (wr.drewN nq) osq=w2 at S3⊢
    go_wp2
    go_roundg (j -(h+1))
    case measure=>omega
    exact⟨h+1,j,by simp,rfl,by omega,by omega,hjb,ac4 _,S3,.inr (by rw[aod,vS.out];exact jm.out),HQ.2⟩
   have jm:=ah (show le e0 xh=true by
    have h1:=sO.out xh e0;rw[show ltOf cf xh e0=false from ac5 hlv]at h1
    cases h2:le e0 xh with|true=>rfl|false=>rw[h2]at h1;exact absurd h1 (by decide))
   go_wp2_with fail
   go_quiet_grown (first|(go_at_fn g;refine Calls.grown_of (hcg _ _)))
   have S3:Aside _:=S2.out nq osq;clear lh la hcg S2
   generalize grow (wr.drewN nq) osq=w2 at S3⊢
   go_wp2
   go_roundg (h - i)
   case measure=>omega
   exact⟨i,h,rfl,rfl,xu,hi1,by omega,ac4 _,S3,HQ.1,.inr (by rw[vS.out];exact jm.out)⟩
  obtain rfl:i=j:=by omega
  have hq:_/\_:=HQ;have iT:=ah hq;clear HQ hq hk;obtain⟨iz,hiz⟩:=aj (i - 1)
  have i3:(i:Int) - 1=(iz:Int):=by omega
  have S4:Aside (SWK enc k w0 blk off d wr):=S1;have haz:a<=iz:=by omega
  have hzb:iz+1<=b:=by omega
  have HIZ:=ah hiz;clear S1 hiz;go_wp2_with fail
  go_loopg [13] (iz - a) (fun kx s13 wv=> ∃(kk:Nat) (dk:Array α),s13=.int .i64 kk/\a<=kk/\kk+kx=iz/\dk.size=n/\Aside (SWK enc k w0 blk off dk wv)/\Hid (dk.toList=p ++((B.take (kk - a)++e0 :: B.drop (kk - a))++s)))
  case atStart=>exact⟨a,d,rfl,ac4 _,by omega,HS.out,S4,(show d.toList=_ by rw[HL.out];simp)⟩
  obtain⟨kk,dk,rfl,hak,hkz,hds,S1,HD⟩:=hrel;clear S4;cases gk with
  |zero=>
   obtain rfl:kk=iz:=by omega
   have hln:=ajW (e:=e0) (B:=B) (s:=s) yg.out HL.out HP.out (by have:=HB.out;have:=HA.out;simp at this;omega) Bc.out (i:=i) (by omega) (by omega) (iT.out.1.imp (fun h=>by have:=HA.out;simp at this;omega) id) iT.out.2
   have hd:_=_:=HD;rw[show kk - a=i -(a+1) by have:=HIZ.out;omega]at hd
   have HF:=ah (And.intro hd hln);clear hd hln HD;go_wp2
   (try simp only[Exit.inBlock,Exit.then]);refine bodyPost_ret (results_none rfl _ _ _) rfl ?_
   exact⟨rfl,dk,_,hds,S1.out,HF.out.1,HF.out.2.1,HF.out.2.2⟩
  |succ kq=>
   have anw:(kk:Int)<iz:=by omega
   have V7:kk - a<B.length:=by have:=HB.out;omega
   obtain⟨y,hy⟩: ∃z,B[kk - a]?=some z:=⟨_,dF V7⟩
   have DX:B.drop (kk - a)=y :: B.drop (kk - a+1):=by rw[aez V7];congr 1;exact ad4 ((dF _).symm.trans hy)
   have DY:B.take (kk - a+1)=B.take (kk - a)++[y]:=by rw[ae3,hy];rfl
   have hd:dk.toList=(p++B.take (kk - a))++e0 ::([]++y ::(B.drop (kk - a+1)++s)):=by
    have hd:_=_:=HD;rw[hd,DX];simp
   have hl1:(p++B.take (kk - a)).length=kk:=by rw[adf,HP.out,aeb];omega
   have hsw:=(UG hd hl1 (j:=kk+1) (by rw[hl1];rfl)).1
   have LH:=ah (show(swp dk kk (kk+1)).toList=p ++((B.take (kk+1 - a)++e0 :: B.drop (kk+1 - a))++s) by rw[hsw,show kk+1 - a=kk - a+1 by omega,DY];simp)
   have ea:((kk:Int)).toNat=kk:=by omega
   have pa:(0:Int)<=(kk:Int):=by omega
   have ba:(kk:Int)<(n:Int):=by omega
   have eb:((kk:Int)+1).toNat=kk+1:=by omega
   have pb:(0:Int)<=(kk:Int)+1:=by omega
   have bb:(kk:Int)+1<(n:Int):=by omega
   have rb:IntKind.i64.wrap ((kk:Int)+1)=(kk:Int)+1:=by rw[IntKind.wrap_i64];omega
   have S2:Aside (SWK enc k w0 blk off (swp dk kk (kk+1)) ((wr.drew.setCells blk (off+kk*k) (enc dk[kk+1]!)).setCells blk (off+(kk+1)*k) (enc dk[kk]!))):=S1.out.swapped R kk (kk+1) (by omega) (by omega)
   have la:=S1.out.ld1 R (by rw[HN.out];exact hds) P kk (by omega)
   have lb:=S1.out.ld1 R (by rw[HN.out];exact hds) P (kk+1) (by omega)
   have sa:=S1.out.st1 R (by rw[HN.out];exact hds) P kk (by omega) dk[kk+1]!
   have sb:=S1.out.st2 R (by rw[HN.out];exact hds) P kk (kk+1) (by omega) (by omega) dk[kk+1]! dk[kk]!
   have na:(enc dk[kk]!).length=k:=R.hk _;have nb:(enc dk[kk+1]!).length=k:=R.hk _
   generalize enc dk[kk]! =cI at S2 la sb na
   generalize enc dk[kk+1]! =cJ at S2 lb sa sb nb
   have LJ:=ah hkz;clear S1 V7 hy DX DY hd hl1 hsw HD hkz;go_wp2_with fail
   go_big_region_o
   clear la lb sa sb
   generalize (wr.drew.setCells blk (off+kk*k) cJ).setCells blk (off+(kk+1)*k) cI=w2 at S2⊢
   go_wp2
   go_roundg kq
   case measure=>omega
   exact⟨kk+1,swp dk kk (kk+1),by simp,by omega,by have:=LJ.out;omega,by rw[size_swp];exact hds,S2,LH.out⟩
 have t1:((m:Int) -(a:Int) == 1)=false:=by rw[adh];omega
 have H1:=ah h1;clear h1;by_cases h2:b=m+1
 ·have i1:(b:Int) -(m:Int)=1:=by omega
  have V8: ∃e,B=[e]:=by
   have:=HB.out
   match B,this with
   |[e],_=>exact⟨e,rfl⟩
   |[],h=>simp at h;omega
   |_ :: _ :: _,h=>simp at h;omega
  obtain⟨e0,V8⟩:=V8;subst V8
  have V6:=ah (Go.Proofs.YtkdakckjafomhaaGreatDoor.fK.get_at (d:=d) (p:=p++A) (s:=s) (x:=e0) (by rw[HL.out];simp) (i:=m) (by rw[adf,HP.out];exact HA.out)).1
  have H2:=ah h2;clear h2;go_wp2_with fail
  go_loopg [14,15] (m - a) (fun kx s10 s11 wr=> ∃(i j:Nat),s10=.int .i64 i/\s11=.int .i64 j/\a<=i/\i<=j/\j<=m/\j - i<=kx/\Aside (SWK enc k w0 blk off d wr)/\Hid ((i=a\/le d[i - 1]! e0=true)/\(j=m\/le e0 d[j]! =true)))
  case atStart=>exact⟨a,m,rfl,rfl,ac4 _,by omega,ac4 _,ac4 _,S0,.inl rfl,.inl rfl⟩
  clear S0;obtain⟨i,j,rfl,rfl,xu,hij,hjb,hk,S1,HQ⟩:=hrel;by_cases hlt:i<j
  ·have QG:(i:Int)<j:=by omega
   obtain⟨h,hh⟩:=aj ((i+j) / 2);obtain⟨q1,q2,q3,q4,q5⟩:=QF hh (by omega)
   have hi1:i<=h:=by omega
   have hj1:h<j:=by omega
   have hhI:(h:Int)<(n:Int):=by omega
   have haI:(m:Int)<(n:Int):=by omega
   have h0I:(0:Int)<=(h:Int):=by omega
   obtain⟨xh,hxh⟩:=aj (d[h]!)
   have lh:=fun n' os'=>S1.out.ld R (by rw[HS.out,HN.out]) P h (by rw[HS.out];omega) n' os'
   have la:=fun n' os'=>S1.out.ld R (by rw[HS.out,HN.out]) P m (by rw[HS.out];omega) n' os'
   rw[hxh]at lh;rw[show d[m]! =e0 from V6.out]at la
   have hcg:=fun n' os'=>S1.out.cmp HC.out HS.out e0 xh n' os'
   have vS:=ah hxh;have HHH:=ah hh
   have S2:Aside (∀n' os',SWK enc k w0 blk off d (grow (wr.drewN n') os')):=fun n' os'=>S1.out.grown n' os'
   clear hxh hh S1;by_cases hlv:cf e0 xh<0
   ·have tb:decide (cf e0 xh<0)=true:=adb hlv
    have jm:=ah (show le e0 xh=true by
     have h1:=sO.out e0 xh;rw[show ltOf cf e0 xh=true from adb hlv]at h1
     exact yg.total (by cases h2:le xh e0 with|false=>rfl|true=>rw[h2]at h1;exact absurd h1 (by decide)))
    go_wp2_with fail
    go_quiet_grown (first|(go_at_fn g;refine Calls.grown_of (hcg _ _)))
    have S3:Aside _:=S2.out nq osq;clear lh la hcg S2
    generalize grow (wr.drewN nq) osq=w2 at S3⊢
    go_wp2
    go_roundg (h - i)
    case measure=>omega
    exact⟨i,h,rfl,rfl,xu,hi1,by omega,ac4 _,S3,HQ.1,.inr (by rw[vS.out];exact jm.out)⟩
   have tb:decide (cf e0 xh<0)=false:=ac5 hlv
   have jm:=ah (show le xh e0=true by
    have h1:=sO.out e0 xh;rw[show ltOf cf e0 xh=false from ac5 hlv]at h1
    cases h2:le xh e0 with|true=>rfl|false=>rw[h2]at h1;exact absurd h1 (by decide))
   go_wp2_with fail
   go_quiet_grown (first|(go_at_fn g;refine Calls.grown_of (hcg _ _)))
   have S3:Aside _:=S2.out nq osq;clear lh la hcg S2
   generalize grow (wr.drewN nq) osq=w2 at S3⊢
   go_wp2
   go_roundg (j -(h+1))
   case measure=>omega
   exact⟨h+1,j,by simp,rfl,by omega,by omega,hjb,ac4 _,S3,.inr (by rw[aod,vS.out];exact jm.out),HQ.2⟩
  obtain rfl:i=j:=by omega
  have hq:_/\_:=HQ;have iT:=ah hq;have S4:Aside (SWK enc k w0 blk off d wr):=S1
  clear HQ hq hk S1;go_wp2_with fail
  go_loopg [17] (m - i) (fun kx s13 wv=> ∃(kk:Nat) (dk:Array α),s13=.int .i64 kk/\kk<=m/\kk=i+kx/\dk.size=n/\Aside (SWK enc k w0 blk off dk wv)/\Hid (dk.toList=p ++((A.take (kk - a)++e0 :: A.drop (kk - a))++s)))
  case atStart=>exact⟨m,d,rfl,ac4 _,by omega,HS.out,S4,(show d.toList=_ by rw[HL.out,ado (by have:=HA.out;omega),aeJ (by have:=HA.out;omega)];simp)⟩
  obtain⟨kk,dk,rfl,hak,hkz,hds,S1,HD⟩:=hrel;clear S4;cases gk with
  |zero=>
   have hki:kk=i:=by omega
   have Dy:(kk:Int)<=(i:Int):=by omega
   have hln:=ajX (e:=e0) (A:=A) (s:=s) yg.out (by rw[HL.out];rfl) HP.out HA.out uI.out (i:=i) (by omega) (by omega) iT.out.1 iT.out.2
   have hd:_=_:=HD;rw[hki]at hd;have HF:=ah (And.intro hd hln);clear hd hln HD hki hkz
   go_wp2
   (try simp only[Exit.inBlock,Exit.then]);refine bodyPost_ret (results_none rfl _ _ _) rfl ?_
   exact⟨rfl,dk,_,hds,S1.out,HF.out.1,HF.out.2.1,HF.out.2.2⟩
  |succ kq=>
   obtain⟨kp,rfl⟩: ∃kp,kk=kp+1:=⟨kk - 1,by omega⟩
   have anw:(i:Int)<(kp:Int)+1:=by omega
   have hAk:kp - a<A.length:=by have:=HA.out;omega
   obtain⟨y,hy⟩: ∃z,A[kp - a]?=some z:=⟨_,dF hAk⟩
   have DX:A.drop (kp - a)=y :: A.drop (kp - a+1):=by rw[aez hAk];congr 1;exact ad4 ((dF _).symm.trans hy)
   have DY:A.take (kp - a+1)=A.take (kp - a)++[y]:=by rw[ae3,hy];rfl
   have hd:dk.toList=(p++A.take (kp - a))++y ::([]++e0 ::(A.drop (kp - a+1)++s)):=by
    have hd:_=_:=HD;rw[hd,show kp+1 - a=kp - a+1 by omega,DY]
    simp
   have hl1:(p++A.take (kp - a)).length=kp:=by rw[adf,HP.out,aeb];omega
   have hsw:=(UG hd hl1 (j:=kp+1) (by rw[hl1];rfl)).2
   have LH:=ah (show(swp dk (kp+1) kp).toList=p ++((A.take (kp - a)++e0 :: A.drop (kp - a))++s) by rw[hsw,DX];simp)
   have ea:((kp:Int)).toNat=kp:=by omega
   have pa:(0:Int)<=(kp:Int):=by omega
   have ba:(kp:Int)<(n:Int):=by omega
   have ra:IntKind.i64.wrap (kp:Int)=(kp:Int):=by rw[IntKind.wrap_i64];omega
   have eb:((kp:Int)+1).toNat=kp+1:=by omega
   have pb:(0:Int)<=(kp:Int)+1:=by omega
   have bb:(kp:Int)+1<(n:Int):=by omega
   have S2:Aside (SWK enc k w0 blk off (swp dk (kp+1) kp) ((wr.drew.setCells blk (off+(kp+1)*k) (enc dk[kp]!)).setCells blk (off+kp*k) (enc dk[kp+1]!))):=S1.out.swapped R (kp+1) kp (by omega) (by omega)
   have la:=S1.out.ld1 R (by rw[HN.out];exact hds) P kp (by omega)
   have lb:=S1.out.ld1 R (by rw[HN.out];exact hds) P (kp+1) (by omega)
   have sa:=S1.out.st1 R (by rw[HN.out];exact hds) P (kp+1) (by omega) dk[kp]!
   have sb:=S1.out.st2 R (by rw[HN.out];exact hds) P (kp+1) kp (by omega) (by omega) dk[kp]! dk[kp+1]!
   have na:(enc dk[kp]!).length=k:=R.hk _;have nb:(enc dk[kp+1]!).length=k:=R.hk _
   generalize enc dk[kp]! =cI at S2 la sa sb na
   generalize enc dk[kp+1]! =cJ at S2 lb sb nb
   have LJ:=ah hkz;clear S1 hAk hy DX DY hd hl1 hsw HD hkz;go_wp2_with fail
   go_big_region_o
   clear la lb sa sb
   generalize (wr.drew.setCells blk (off+(kp+1)*k) cI).setCells blk (off+kp*k) cJ=w2 at S2⊢
   go_wp2
   go_roundg kq
   case measure=>omega
   exact⟨kp,swp dk (kp+1) kp,by simp,by omega,by have:=LJ.out;omega,by rw[size_swp];exact hds,S2,LH.out⟩
 have t2:((b:Int) -(m:Int) == 1)=false:=by rw[adh];omega
 have H2:=ah h2;clear h2;obtain⟨mid,hmid⟩:=aj ((a+b) / 2)
 obtain⟨q1,q2,q3,q4,q5⟩:=QF hmid (by omega)
 have hm1:a<mid:=by have:=H1.out;have:=H2.out;omega
 have hm2:mid<b:=by omega
 have adO:=ah hmid;obtain⟨lo,hlo⟩:=aj (if mid<m then mid+m - b else a)
 obtain⟨hi,hhi⟩:=aj (if mid<m then mid else m)
 have adP:(mid<m/\lo=mid+m - b/\hi=mid)\/(m<=mid/\lo=a/\hi=m):=by
  by_cases h:mid<m
  ·rw[adk h]at hlo hhi;exact .inl ⟨h,hlo.symm,hhi.symm⟩
  rw[ade h]at hlo hhi;exact .inr ⟨by omega,hlo.symm,hhi.symm⟩
 have kF:=ah adP
 have r6:IntKind.i64.wrap ((mid:Int)+(m:Int))=(mid:Int)+(m:Int):=by rw[IntKind.wrap_i64];omega
 clear hlo hhi adP hmid
 go_upto_if 140 with fail
 go_cut [20,21] from 25 (fun s20 VT wx=>s20=.int .i64 (lo:Int)/\VT=.int .i64 (hi:Int)/\w=wx)
 case first=>
  rcases kF.out with⟨h1,h2,h3⟩|⟨h1,h2,h3⟩
  ·have hI:(mid:Int)<(m:Int):=by omega
   have e1:(mid:Int)+(m:Int) -(b:Int)=(lo:Int):=by have:=adO.out;omega
   have b1:lo<4611686018427387904:=by omega
   have h3':=ah h3;clear h1 h2 h3;go_wp2_with fail;go_meet;exact⟨rfl,by rw[h3'.out],rfl⟩
  have hI:(m:Int)<=(mid:Int):=by omega
  have h3':=ah (And.intro h2 h3);clear h1 h2 h3;go_wp2_with fail;go_meet
  exact⟨by rw[h3'.out.1],by rw[h3'.out.2],rfl⟩
 case rest=>
 obtain⟨rfl,rfl,rfl⟩:=hcut;have hl1:a<=lo:=by have:=kF.out;have:=adO.out;omega
 have hl2:lo<=hi:=by have:=kF.out;omega
 have hl3:hi<=m:=by have:=kF.out;omega
 have hl4:hi<=mid:=by have:=kF.out;omega
 have hl5:mid+m - lo<=b:=by have:=kF.out;omega
 obtain⟨pe,hpe⟩:=aj (mid+m - 1);have e1:(mid:Int)+(m:Int) - 1=(pe:Int):=by omega
 have b1:pe<4611686018427387904:=by omega
 have qj:=ah hpe;clear hpe;go_wp2_with fail
 go_loopg [20,21] (hi - lo) (fun kx s10 s11 wr=> ∃(i j:Nat),s10=.int .i64 i/\s11=.int .i64 j/\lo<=i/\i<=j/\j<=hi/\j - i<=kx/\Aside (SWK enc k w0 blk off d wr)/\Hid ((i=lo\/le d[i - 1]! d[pe -(i - 1)]! =true)/\(j=hi\/le d[pe - j]! d[j]! =true)))
 case atStart=>exact⟨lo,hi,rfl,rfl,ac4 _,hl2,ac4 _,ac4 _,S0,.inl rfl,.inl rfl⟩
 clear S0;obtain⟨i,j,rfl,rfl,xu,hij,hjb,hk,S1,HQ⟩:=hrel;by_cases hlt:i<j
 ·have QG:(i:Int)<j:=by omega
  obtain⟨h,hh⟩:=aj ((i+j) / 2);obtain⟨q1,q2,q3,q4,q5⟩:=QF hh (by omega)
  have hi1:i<=h:=by omega
  have hj1:h<j:=by omega
  obtain⟨ph,hph⟩:=aj (pe - h);have apG:ph<n:=by have:=qj.out;omega
  have ep:(pe:Int) -(h:Int)=(ph:Int):=by have:=qj.out;omega
  have hhI:(h:Int)<(n:Int):=by omega
  have hpI:(ph:Int)<(n:Int):=by omega
  have h0I:(0:Int)<=(h:Int):=by omega
  have h0p:(0:Int)<=(ph:Int):=by omega
  have rp:IntKind.i64.wrap (ph:Int)=(ph:Int):=by rw[IntKind.wrap_i64];omega
  obtain⟨xh,hxh⟩:=aj (d[h]!);obtain⟨xp,hxp⟩:=aj (d[ph]!)
  have lh:=fun n' os'=>S1.out.ld R (by rw[HS.out,HN.out]) P h (by rw[HS.out];omega) n' os'
  have la:=fun n' os'=>S1.out.ld R (by rw[HS.out,HN.out]) P ph (by rw[HS.out];omega) n' os'
  rw[hxh]at lh;rw[hxp]at la
  have hcg:=fun n' os'=>S1.out.cmp HC.out HS.out xp xh n' os'
  have vS:=ah (And.intro hxh (And.intro hxp hph));have HHH:=ah hh
  have S2:Aside (∀n' os',SWK enc k w0 blk off d (grow (wr.drewN n') os')):=fun n' os'=>S1.out.grown n' os'
  clear hxh hxp hph hh S1;by_cases hlv:cf xp xh<0
  ·have tb:decide (cf xp xh<0)=true:=adb hlv
   have jm:=ah (show le xp xh=true by
    have h1:=sO.out xp xh;rw[show ltOf cf xp xh=true from adb hlv]at h1
    exact yg.total (by cases h2:le xh xp with|false=>rfl|true=>rw[h2]at h1;exact absurd h1 (by decide)))
   go_wp2_with fail
   go_quiet_grown (first|(go_at_fn g;refine Calls.grown_of (hcg _ _)))
   have S3:Aside _:=S2.out nq osq;clear lh la hcg S2
   generalize grow (wr.drewN nq) osq=w2 at S3⊢
   go_wp2
   go_roundg (h - i)
   case measure=>omega
   exact⟨i,h,rfl,rfl,xu,hi1,by omega,ac4 _,S3,HQ.1,.inr (by rw[vS.out.2.2,vS.out.2.1,vS.out.1];exact jm.out)⟩
  have tb:decide (cf xp xh<0)=false:=ac5 hlv
  have jm:=ah (show le xh xp=true by
   have h1:=sO.out xp xh;rw[show ltOf cf xp xh=false from ac5 hlv]at h1
   cases h2:le xh xp with|true=>rfl|false=>rw[h2]at h1;exact absurd h1 (by decide))
  go_wp2_with fail
  go_quiet_grown (first|(go_at_fn g;refine Calls.grown_of (hcg _ _)))
  have S3:Aside _:=S2.out nq osq;clear lh la hcg S2
  generalize grow (wr.drewN nq) osq=w2 at S3⊢
  go_wp2
  go_roundg (j -(h+1))
  case measure=>omega
  exact⟨h+1,j,by simp,rfl,by omega,by omega,hjb,ac4 _,S3,.inr (by rw[aod,vS.out.2.2,vS.out.2.1,vS.out.1];exact jm.out),HQ.2⟩
 have apJ:(j:Int)<=(i:Int):=by omega
 have hij':j=i:=by omega
 have hq:_/\_:=HQ;rw[hij']at hq
 have hsp:=ajY (mid:=mid) (st:=i) HL.out HP.out HA.out HB.out (by omega) (by omega) (by omega) (by omega)
  (by
   rcases hq.1 with h|h
   ·have:=kF.out
    rcases this with⟨_,h2,_⟩|⟨_,h2,_⟩
    ·exact .inr (.inl (by omega))
    exact .inl (by omega)
   by_cases e:i=a
   ·exact .inl e
   exact .inr (.inr (by rw[show mid+m - 1 -(i - 1)=pe -(i - 1) by rw[qj.out]];exact h)))
  (by
   rcases hq.2 with h|h
   ·have:=kF.out
    rcases this with⟨_,_,h2⟩|⟨_,_,h2⟩
    ·exact .inr (.inl (by omega))
    exact .inl (by omega)
   exact .inr (.inr (by rw[qj.out];exact h)))
 have og:=ah hsp;obtain⟨en,hen⟩:=aj (mid+m - i)
 have i6:(mid:Int)+(m:Int) -(i:Int)=(en:Int):=by omega
 have b6:en<4611686018427387904:=by omega
 obtain⟨A1,A2,adR,QH,QI⟩: ∃A1 A2,A=A1++A2/\A1=A.take (i - a)/\A2=A.drop (i - a):=⟨_,_,(aeN (i - a) A).symm,rfl,rfl⟩
 obtain⟨B1,B2,adS,QJ,LQ⟩: ∃B1 B2,B=B1++B2/\B1=B.take (mid - i)/\B2=B.drop (mid - i):=⟨_,_,(aeN (mid - i) B).symm,rfl,rfl⟩
 have ln:A1.length=i - a/\A2.length=m - i/\B1.length=mid - i/\B2.length=b - en:=by
  have h1:=HA.out;have h2:=HB.out;rw[QH,QI,QJ,LQ];simp only[aeb,aej];omega
 have adT:=fun(S1 S2:List α) (p1:S1.Perm (A1++B1)) (s1:bJ le S1) (p2:S2.Perm (A2++B2)) (s2:bJ le S2)=>ajV yg.out uI.out Bc.out hsp.1 hsp.2 (by rw[<-QH,<-QJ];exact p1) s1 (by rw[<-QI,<-LQ];exact p2) s2
 have HMG:=ah adT
 have hs4:bJ le A1/\bJ le A2/\bJ le B1/\bJ le B2:=by
  rw[QH,QI,QJ,LQ]
  exact⟨anP (aq6 _ _) uI.out,anP (apj _ _) uI.out,anP (aq6 _ _) Bc.out,anP (apj _ _) Bc.out⟩
 have qA:=ah hs4
 have dN:=ah (show A1.length=i - a/\A2.length=m - i/\B1.length=mid - i/\B2.length=b - en/\mid+m=en+i/\a<=i/\i<=m/\i<=mid/\en<=b from⟨ln.1,ln.2.1,ln.2.2.1,ln.2.2.2,by omega,by omega,by omega,by omega,by omega⟩)
 have HL2:=ah (show d.toList=p ++(A1 ++(A2 ++(B1 ++(B2++s)))) by rw[HL.out,adR,adS];simp)
 have S4:Aside (SWK enc k w0 blk off d wr):=S1
 clear hq hsp HQ hij' hen adR adS QH QI QJ LQ ln adT hs4 hk S1;have hq5:=dN.out
 have HLc:=ah (fun(d1:Array α) (w5:World) (h1:d1.size=n) (h2:SWK enc k w0 blk off d1 w5) (h3:d1.toList=p ++((A1++B1) ++((A2++B2)++s))) (c1:a<i) (c2:i<mid)=>
  IH.out a i mid d1 w5 p A1 B1 ((A2++B2)++s) (by have:=aC.out;omega) h1 h2 (by rw[h3];simp) HP.out (by rw[dN.out.1];omega) (by rw[dN.out.2.2.1];omega) (aeX.1 (by rw[dN.out.1];omega)) (aeX.1 (by rw[dN.out.2.2.1];omega)) qA.out.1 qA.out.2.2.1)
 have V9:=ah (fun(d1:Array α) (C1:List α) (w5:World) (h1:d1.size=n) (h2:SWK enc k w0 blk off d1 w5) (h3:d1.toList=p ++(C1 ++((A2++B2)++s))) (h4:C1.length=mid - a) (c1:mid<en) (c2:en<b)=>
  IH.out mid en b d1 w5 (p++C1) A2 B2 s (by have:=aC.out;omega) h1 h2 (by rw[h3];simp) (by rw[adf,HP.out,h4];omega) (by rw[dN.out.2.1];have:=dN.out;omega) (by rw[dN.out.2.2.2.1];omega) (aeX.1 (by rw[dN.out.2.1];have:=dN.out;omega)) (aeX.1 (by rw[dN.out.2.2.2.1];omega)) qA.out.2.1 qA.out.2.2.2)
 have Gf:=ah (fun(d1:Array α) (C1 C2:List α) (h3:d1.toList=p ++(C1 ++(C2++s))) (s1:bJ le C1) (p1:C1.Perm (A1++B1)) (s2:bJ le C2) (p2:C2.Perm (A2++B2))=>show d1.toList=p ++((C1++C2)++s)/\bJ le (C1++C2)/\(C1++C2).Perm (A++B) from⟨by rw[h3];simp,HMG.out C1 C2 p1 s1 p2 s2⟩)
 have gY:(A1++B1).length=mid - a:=by rw[adf,hq5.1,hq5.2.2.1];omega
 have nG:=ah gY;by_cases x:i<m
 ·have xI:(i:Int)<(m:Int):=by omega
  by_cases y:i<mid
  ·have yI:(i:Int)<(mid:Int):=by omega
   have c1:(m:Int)<(en:Int):=by omega
   have c3:(mid:Int)<(en:Int):=by omega
   have hro:=rotate L FG FR (g:=g) (cb:=cb) (cap:=cap) (a:=i) (m:=m) (b:=en) (p:=p++A1) (x:=A2) (y:=B1) (s:=B2++s) R HN.out HS.out S4.out (by rw[HL2.out];simp) (by rw[adf,HP.out,dN.out.1];omega) (by rw[dN.out.2.1];omega) (by rw[dN.out.2.2.1];omega) (aeX.1 (by rw[dN.out.2.1];omega)) (aeX.1 (by rw[dN.out.2.2.1];omega)) (by omega)
   have HRO:=ah hro;have hX:=ah x;have hY:=ah y;have adV:=ah (show mid<en by omega)
   clear hro hq5 gY x y;go_wp2_with fail;refine HRO.mono ?_;rintro e w5 ⟨rfl,d1,h1,h2,h3⟩
   have S5:Aside (SWK enc k w0 blk off d1 w5):=h2
   have H5:=ah (show d1.size=n/\d1.toList=p ++((A1++B1) ++((A2++B2)++s)) from⟨h1,by rw[h3];simp⟩)
   clear h1 h2 h3 S4;by_cases z:a<i
   ·have zI:(a:Int)<(i:Int):=by omega
    have Wh:=ah (HLc.out d1 w5 H5.out.1 S5.out H5.out.2 z hY.out);clear z;go_wp2_with fail
    refine Wh.mono ?_;rintro e w6 ⟨rfl,d2,C1,h1,h2,h3,h4,h5⟩
    have S6:Aside (SWK enc k w0 blk off d2 w6):=h2
    have H6:=ah (show d2.size=n/\d2.toList=p ++(C1 ++((A2++B2)++s))/\bJ le C1/\C1.Perm (A1++B1) from⟨h1,h3,h4,h5⟩)
    clear h1 h2 h3 h4 h5 S5 H5;by_cases t:en<b
    ·have tI:(en:Int)<(b:Int):=by omega
     have LU:=ah (V9.out d2 C1 w6 H6.out.1 S6.out H6.out.2.1 (by rw[H6.out.2.2.2.length_eq];exact nG.out) adV.out t)
     clear t;go_wp2_with fail;refine LU.mono ?_;rintro e w7 ⟨rfl,d3,C2,h1,h2,h3,h4,h5⟩
     have S7:Aside (SWK enc k w0 blk off d3 w7):=h2
     have H7:=ah (And.intro h1 (Gf.out d3 C1 C2 (by rw[h3];simp) H6.out.2.2.1 H6.out.2.2.2 h4 h5))
     clear h1 h2 h3 h4 h5;go_wp2
     go_end0
     exact⟨rfl,d3,_,H7.out.1,S7.out,H7.out.2⟩
    have tI:(b:Int)<=(en:Int):=by omega
    have hB2:B2=[]:=adB (by rw[dN.out.2.2.2.1];omega)
    have H7:=ah (Gf.out d2 C1 (A2++B2) H6.out.2.1 H6.out.2.2.1 H6.out.2.2.2 (by rw[hB2,aey];exact qA.out.2.1) (.refl _))
    clear t hB2;go_wp2
    go_end0
    exact⟨rfl,d2,_,H6.out.1,S6.out,H7.out⟩
   have zI:(i:Int)<=(a:Int):=by omega
   have hA1:A1=[]:=adB (by rw[dN.out.1];omega)
   have hs1:=ah (show bJ le (A1++B1) by rw[hA1,aex];exact qA.out.2.2.1)
   clear hA1 z;by_cases t:en<b
   ·have tI:(en:Int)<(b:Int):=by omega
    have LU:=ah (V9.out d1 (A1++B1) w5 H5.out.1 S5.out H5.out.2 nG.out adV.out t)
    clear t;go_wp2_with fail;refine LU.mono ?_;rintro e w7 ⟨rfl,d3,C2,h1,h2,h3,h4,h5⟩
    have S7:Aside (SWK enc k w0 blk off d3 w7):=h2
    have H7:=ah (And.intro h1 (Gf.out d3 (A1++B1) C2 (by rw[h3];simp) hs1.out (.refl _) h4 h5))
    clear h1 h2 h3 h4 h5;go_wp2
    go_end0
    exact⟨rfl,d3,_,H7.out.1,S7.out,H7.out.2⟩
   have tI:(b:Int)<=(en:Int):=by omega
   have hB2:B2=[]:=adB (by rw[dN.out.2.2.2.1];omega)
   have H7:=ah (Gf.out d1 (A1++B1) (A2++B2) H5.out.2 hs1.out (.refl _) (by rw[hB2,aey];exact qA.out.2.1) (.refl _))
   clear t hB2;go_wp2
   go_end0
   exact⟨rfl,d1,_,H5.out.1,S5.out,H7.out⟩
  have yI:(mid:Int)<=(i:Int):=by omega
  have c1:(en:Int)<=(m:Int):=by omega
  have zI:(a:Int)<(i:Int):=by omega
  have c3:(mid:Int)<(en:Int):=by omega
  have tI:(en:Int)<(b:Int):=by omega
  have hB1:B1=[]:=adB (by rw[hq5.2.2.1];omega)
  have hs1:=ah (show bJ le (A1++B1) by rw[hB1,aey];exact qA.out.1)
  have LU:=ah (V9.out d (A1++B1) wr HS.out S4.out (by rw[HL2.out,hB1];simp) nG.out (by omega) (by omega))
  clear hq5 gY x y hB1;go_wp2_with fail;refine LU.mono ?_
  rintro e w7 ⟨rfl,d3,C2,h1,h2,h3,h4,h5⟩;have S7:Aside (SWK enc k w0 blk off d3 w7):=h2
  have H7:=ah (And.intro h1 (Gf.out d3 (A1++B1) C2 (by rw[h3];simp) hs1.out (.refl _) h4 h5))
  clear h1 h2 h3 h4 h5;go_wp2
  go_end0
  exact⟨rfl,d3,_,H7.out.1,S7.out,H7.out.2⟩
 have xI:(m:Int)<=(i:Int):=by omega
 have zI:(a:Int)<(i:Int):=by omega
 have c3:(en:Int)<=(mid:Int):=by omega
 have hA2:A2=[]:=adB (by rw[hq5.2.1];omega)
 have hs2:=ah (show bJ le (A2++B2) by rw[hA2,aex];exact qA.out.2.2.2)
 have hd0:=ah (show d.toList=p ++((A1++B1) ++((A2++B2)++s)) by rw[HL2.out,hA2];simp)
 by_cases y:i<mid
 ·have yI:(i:Int)<(mid:Int):=by omega
  have Wh:=ah (HLc.out d wr HS.out S4.out hd0.out (by omega) y)
  clear hq5 gY x y hA2;go_wp2_with fail;refine Wh.mono ?_
  rintro e w6 ⟨rfl,d2,C1,h1,h2,h3,h4,h5⟩;have S6:Aside (SWK enc k w0 blk off d2 w6):=h2
  have H7:=ah (And.intro h1 (Gf.out d2 C1 (A2++B2) h3 h4 h5 hs2.out (.refl _)))
  clear h1 h2 h3 h4 h5;go_wp2
  go_end0
  exact⟨rfl,d2,_,H7.out.1,S6.out,H7.out.2⟩
 have yI:(mid:Int)<=(i:Int):=by omega
 have hB1:B1=[]:=adB (by rw[hq5.2.2.1];omega)
 have H7:=ah (Gf.out d (A1++B1) (A2++B2) hd0.out (by rw[hB1,aey];exact qA.out.1) (.refl _) hs2.out (.refl _))
 clear hq5 gY x y hA2 hB1;go_wp2
 go_end0
 exact⟨rfl,d,_,HS.out,S4.out,H7.out⟩
end Go.Proofs.YtkdakckjafomhaaGreatDoor.pz
