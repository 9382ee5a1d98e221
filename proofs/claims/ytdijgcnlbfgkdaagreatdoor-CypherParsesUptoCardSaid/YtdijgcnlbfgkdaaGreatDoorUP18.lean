/- Lemmas. -/
import Derived.Test.YtdijgcnlbfgkdaaGreatDoorUP17
import Derived.Shelf.SlSortCmp.KitK
import Derived.Sort.WalkB2
import Derived.Sort.WalkB12
set_option maxHeartbeats 64000000
set_option maxRecDepth 1000000
set_option linter.all false
namespace Go.Proofs.YtdijgcnlbfgkdaaGreatDoor.rC
open Go Go.Shelf Go.RowKit Go.Lib Go.Sort Go.Proofs Go.Proofs.YtdijgcnlbfgkdaaGreatDoor.ig Go.Proofs.Tryz
variable {P:Program} {ρ:Ren} {α:Type} [Inhabited α]
structure vI (P:Program) (ρ:Ren) (k:Nat):Prop where
 mixed:P.follows .mixedOrders=true
 t0:P.underlying (ρ.t 0)=some (.tuple #[])
 a0: ∀w,(isAgg (ρ.t 0)).run P w=.ok false w
 z0: ∀w,(Go.sizeOf (ρ.t 0)).run P w=.ok 1 w
 v0: ∀w,(zeroValue (ρ.t 0)).run P w=.ok (.tuple #[]) w
 t3:P.underlying (ρ.t 3)=some (.int .i64)
 a3: ∀w,(isAgg (ρ.t 3)).run P w=.ok false w
 z3: ∀w,(Go.sizeOf (ρ.t 3)).run P w=.ok 1 w
 v3: ∀w,(zeroValue (ρ.t 3)).run P w=.ok (.int .i64 0) w
 t4:P.underlying (ρ.t 4)=some .bool
 a4: ∀w,(isAgg (ρ.t 4)).run P w=.ok false w
 z4: ∀w,(Go.sizeOf (ρ.t 4)).run P w=.ok 1 w
 v4: ∀w,(zeroValue (ρ.t 4)).run P w=.ok (.bool false) w
 t5:P.underlying (ρ.t 168)=some (.int .u64)
 a5: ∀w,(isAgg (ρ.t 168)).run P w=.ok false w
 z5: ∀w,(Go.sizeOf (ρ.t 168)).run P w=.ok 1 w
 v5: ∀w,(zeroValue (ρ.t 168)).run P w=.ok (.int .u64 0) w
 t22:P.underlying (ρ.t 23)=some (.slice (ρ.t 37))
 a22: ∀w,(isAgg (ρ.t 23)).run P w=.ok false w
 z22: ∀w,(Go.sizeOf (ρ.t 23)).run P w=.ok 1 w
 v22: ∀w,(zeroValue (ρ.t 23)).run P w=.ok (.slice none 0 0) w
 t25:P.underlying (ρ.t 119)=some (.func #[(ρ.t 37),(ρ.t 37)] #[(ρ.t 3)] false)
 a25: ∀w,(isAgg (ρ.t 119)).run P w=.ok false w
 z25: ∀w,(Go.sizeOf (ρ.t 119)).run P w=.ok 1 w
 v25: ∀w,(zeroValue (ρ.t 119)).run P w=.ok .nilFunc w
 aE: ∀w,(isAgg (ρ.t 37)).run P w=.ok true w
 zE: ∀w,(Go.sizeOf (ρ.t 37)).run P w=.ok k w
def swapRange {k:Nat} (L:vI P ρ k) (FG:Bd P ρ 237 f237) {enc:α->List Value} {g:Nat} {cb:Array Value} {blk off cap a b m n:Nat} {d0 d:Array α} {w0 w:World} {p x q y s:List α}
  (R:RowK enc k w0 blk off d0) (hn:d0.size=n) (hs:d.size=n) (S:SWK enc k w0 blk off d w) (hl:d.toList=p ++(x ++(q ++(y++s)))) (ha:p.length=a) (hx:x.length=m) (hy:y.length=m) (hb:a+m+q.length=b) (hsz:n<4611686018427387904):
  Calls P (ρ.f 237) #[.slice (some ⟨blk,off,none⟩) n cap,.int .i64 a,.int .i64 b,.int .i64 m,.func (.func g) #[] cb] w fun e w'=>e=.returned (.tuple #[])/\ ∃d',d'.size=n/\SWK enc k w0 blk off d' w'/\d'.toList=p ++(y ++(q ++(x++s))):=by
 have mixed:=L.mixed;have t0:=L.t0;have a0:=L.a0;have z0:=L.z0;have v0:=L.v0;have t3:=L.t3;have a3:=L.a3;have z3:=L.z3;have v3:=L.v3;have t4:=L.t4;have a4:=L.a4;have z4:=L.z4;have v4:=L.v4;have t22:=L.t22;have a22:=L.a22;have z22:=L.z22;have v22:=L.v22;have t25:=L.t25;have a25:=L.a25;have z25:=L.z25;have v25:=L.v25;have aE:=L.aE;have zE:=L.zE;have u22:=atp L.t22;have hlen:=afL List.length hl;simp only[agR,aeo]at hlen;have hbn:b+m<=n:=by omega
 have S0:Aside (SWK enc k w0 blk off d w):=S;refine gq7 hs hl ha hx hy hb hn fun HS HL HA HX HY HB HN=>?_;have hab:a+m<=b:=by omega
 clear S hl ha hx hy hb hlen hs hn;obtain⟨nm,tg,ps,rt,-,FX⟩:=FG;simp only[f237,afX,sF,Ey,DX,Ew,jX,agQ,ahr]at FX;go_enter FX,afQ;go_wp2
 go_loopg [10] m (fun kx s10 wr=> ∃(i:Nat) (dk:Array α),s10=.int .i64 i/\i+kx=m/\dk.size=n/\Aside (SWK enc k w0 blk off dk wr)/\Hid (dk.toList=p ++((y.take i++x.drop i) ++(q ++((x.take i++y.drop i)++s)))))
 case atStart=>exact⟨0,d,rfl,by omega,HS.out,S0,(show d.toList=_ by rw[HL.out];simp)⟩
 clear S0;obtain⟨i,dk,rfl,hk,hds,S1,HD⟩:=hrel;cases gk with
 |zero=>
  obtain rfl:i=m:=by omega
  have hd:_=_:=HD;rw[aeG (show y.length<=i by rw[HY.out];exact aej _),aeG (show x.length<=i by rw[HX.out];exact aej _),agS (show y.length<=i by rw[HY.out];exact aej _),agS (show x.length<=i by rw[HX.out];exact aej _),afy,afy]at hd
  have HDF:=ah hd;clear hd;go_wp2
  go_end0
  exact⟨rfl,dk,hds,S1.out,HDF.out⟩
 |succ kq=>
  have him:i<m:=by omega
  have aqY:(i:Int)<m:=by omega
  obtain⟨xi,hxi⟩: ∃z,x[i]?=some z:=⟨_,aen (by rw[HX.out];exact him)⟩
  obtain⟨yi,hyi⟩: ∃z,y[i]?=some z:=⟨_,aen (by rw[HY.out];exact him)⟩
  have hxd:x.drop i=xi :: x.drop (i+1):=by rw[afk (by rw[HX.out];exact him)];congr 1;exact aeM ((aen _).symm.trans hxi)
  have wY:y.drop i=yi :: y.drop (i+1):=by rw[afk (by rw[HY.out];exact him)];congr 1;exact aeM ((aen _).symm.trans hyi)
  have hxt:x.take (i+1)=x.take i++[xi]:=by rw[afS,hxi];rfl
  have Ez:y.take (i+1)=y.take i++[yi]:=by rw[afS,hyi];rfl
  have hd:dk.toList=(p++y.take i)++xi ::((x.drop (i+1)++q++x.take i)++yi ::(y.drop (i+1)++s)):=by
   have hd:_=_:=HD;rw[hd,hxd,wY];simp
  obtain⟨ai,hai⟩:=aj (a+i);obtain⟨bi,hbi⟩:=aj (b+i);have hl1:(p++y.take i).length=ai:=by rw[aeo,HA.out,afo,HY.out];omega
  have hl2:(p++y.take i).length+1+(x.drop (i+1)++q++x.take i).length=bi:=by
   have h1:=HB.out;rw[hl1];simp only[aeo,afo,ae1,HX.out];omega
  have hsw:=(Vk hd hl1 hl2).1;have Nb:=ah (show(swp dk ai bi).toList=p ++((y.take (i+1)++x.drop (i+1)) ++(q ++((x.take (i+1)++y.drop (i+1))++s))) by rw[hsw,hxt,Ez];simp)
  have ea:((a:Int)+(i:Int)).toNat=ai:=by omega
  have pa:(0:Int)<=(a:Int)+(i:Int):=by omega
  have ba:(a:Int)+(i:Int)<(n:Int):=by omega
  have ra:IntKind.i64.wrap ((a:Int)+(i:Int))=(a:Int)+(i:Int):=by rw[asy];omega
  have eb:((b:Int)+(i:Int)).toNat=bi:=by omega
  have pb:(0:Int)<=(b:Int)+(i:Int):=by omega
  have bb:(b:Int)+(i:Int)<(n:Int):=by omega
  have rb:IntKind.i64.wrap ((b:Int)+(i:Int))=(b:Int)+(i:Int):=by rw[asy];omega
  have aoE:ai<n:=by omega
  have aoF:bi<n:=by omega
  have S2:Aside (SWK enc k w0 blk off (swp dk ai bi) ((wr.drew.setCells blk (off+ai*k) (enc dk[bi]!)).setCells blk (off+bi*k) (enc dk[ai]!))):=S1.out.swapped R ai bi (by omega) (by omega)
  have la:=S1.out.ld1 R (by rw[HN.out];exact hds) P ai (by omega)
  have lb:=S1.out.ld1 R (by rw[HN.out];exact hds) P bi (by omega)
  have sa:=S1.out.st1 R (by rw[HN.out];exact hds) P ai (by omega) dk[bi]!
  have sb:=S1.out.st2 R (by rw[HN.out];exact hds) P ai bi (by omega) (by omega) dk[bi]! dk[ai]!
  have na:(enc dk[ai]!).length=k:=R.hk _;have nb:(enc dk[bi]!).length=k:=R.hk _
  generalize enc dk[ai]! =cI at S2 la sb na
  generalize enc dk[bi]! =cJ at S2 lb sa sb nb
  have xH:=ah hk;clear S1 hxi hyi hxd wY hxt Ez hd hl1 hl2 hsw HD him hai hbi aoE aoF hk;go_wp2_with fail
  go_big_region_o
  clear la lb sa sb
  generalize (wr.drew.setCells blk (off+ai*k) cJ).setCells blk (off+bi*k) cI=w2 at S2⊢
  go_wp2
  go_roundg kq
  case measure=>omega
  exact⟨i+1,swp dk ai bi,by simp,by have:=xH.out;omega,by rw[size_swp];exact hds,S2,Nb.out⟩
def rotate {k:Nat} (L:vI P ρ k) (FG:Bd P ρ 237 f237) (FR:Bd P ρ 201 f201) {enc:α->List Value} {g:Nat} {cb:Array Value} {blk off cap a b m n:Nat} {d0 d:Array α} {w0 w:World} {p x y s:List α}
  (R:RowK enc k w0 blk off d0) (hn:d0.size=n) (hs:d.size=n) (S:SWK enc k w0 blk off d w) (hl:d.toList=p ++(x ++(y++s))) (ha:p.length=a) (hx:a+x.length=m) (hy:m+y.length=b) (hx0:x≠ []) (hy0:y≠ []) (hsz:n<4611686018427387904):
  Calls P (ρ.f 201) #[.slice (some ⟨blk,off,none⟩) n cap,.int .i64 a,.int .i64 m,.int .i64 b,.func (.func g) #[] cb] w fun e w'=>e=.returned (.tuple #[])/\ ∃d',d'.size=n/\SWK enc k w0 blk off d' w'/\d'.toList=p ++(y ++(x++s)):=by
 have mixed:=L.mixed;have t0:=L.t0;have a0:=L.a0;have z0:=L.z0;have v0:=L.v0;have t3:=L.t3;have a3:=L.a3;have z3:=L.z3;have v3:=L.v3;have t4:=L.t4;have a4:=L.a4;have z4:=L.z4;have v4:=L.v4;have t22:=L.t22;have a22:=L.a22;have z22:=L.z22;have v22:=L.v22;have t25:=L.t25;have a25:=L.a25;have z25:=L.z25;have v25:=L.v25;have aE:=L.aE;have zE:=L.zE;have eF: ∀args w,(callFunc (ρ.f 237) args).run P w=.ok (.enter (ρ.f 237) args) w:=FG.enters rfl;have hlen:=afL List.length hl;simp only[agR,aeo]at hlen;have hbn:b<=n:=by omega
 have S0:Aside (SWK enc k w0 blk off d w):=S;obtain⟨T,hT⟩:=aj (p ++(y ++(x++s)));rw[hT];have hxl:0<x.length:=afB.2 hx0;have hyl:0<y.length:=afB.2 hy0;have H0:=ah (show∃p' X Y s':List α,d.toList=p' ++(X ++(Y++s'))/\p' ++(Y ++(X++s'))=T/\p'.length+X.length=m/\X.length=m - a/\Y.length=b - m/\m+Y.length<=n from⟨p,x,y,s,hl,hT,by omega,by omega,by omega,by omega⟩)
 have h1:0<m - a:=by omega
 have h2:0<b - m:=by omega
 have ham:a<=m:=by omega
 have hmb:m<=b:=by omega
 have i1:(m:Int) -(a:Int)=((m - a:Nat):Int):=by omega
 have i2:(b:Int) -(m:Int)=((b - m:Nat):Int):=by omega
 obtain⟨u0,hu0⟩:=aj (m - a);obtain⟨v0',hv0⟩:=aj (b - m);rw[hu0]at H0 h1 i1;rw[hv0]at H0 h2 i2;have HS:=ah hs;have HN:=ah hn;clear S hl ha hx hy hx0 hy0 hlen hs hn hT hxl hyl;obtain⟨nm,tg,ps,rt,-,FX⟩:=FR;simp only[f201,afX,sF,Ey,DX,Ew,jX,agQ,ahr]at FX;go_enter FX,afQ;go_wp2
 go_loopg [10,11] (u0+v0') (fun kx s10 s11 wr=> ∃(i j:Nat) (dk:Array α),s10=.int .i64 i/\s11=.int .i64 j/\0<i/\0<j/\i+j<=kx/\i<=m/\m+j<=n/\dk.size=n/\Aside (SWK enc k w0 blk off dk wr)/\Hid (∃p' X Y s':List α,dk.toList=p' ++(X ++(Y++s'))/\p' ++(Y ++(X++s'))=T/\p'.length+X.length=m/\X.length=i/\Y.length=j/\m+Y.length<=n))
 case atStart=>exact⟨u0,v0',d,rfl,rfl,h1,h2,aej _,by omega,by omega,HS.out,S0,H0⟩
 clear S0 H0 h1 h2 i1 i2;obtain⟨i,j,dk,rfl,rfl,hi0,hj0,hij,him,hjn,hds,S1,HD⟩:=hrel;obtain⟨p',X,Y,s',hd,hT,hpx,Nh,hYl,-⟩:=HD;obtain⟨pi,hpi⟩:=aj (m - i);have hp':p'.length=pi:=by omega
 have i3:(m:Int) -(i:Int)=(pi:Int):=by omega
 have r3:IntKind.i64.wrap (pi:Int)=(pi:Int):=by rw[asy];omega
 rcases Nat.lt_trichotomy i j with hlt|rfl|hlt
 ·obtain⟨ji,hji⟩:=aj (j - i)
  obtain⟨mj,hmj⟩:=aj (m+j - i);obtain⟨Y1,Y2,rfl,e1,e2⟩: ∃Y1 Y2,Y=Y1++Y2/\Y1.length=ji/\Y2.length=i:=⟨Y.take ji,Y.drop ji,(afz ji Y).symm,by rw[afo];omega,by rw[ae1];omega⟩
  have hsw:=swapRange L FG (g:=g) (cb:=cb) (cap:=cap) (a:=pi) (b:=mj) (m:=i) (p:=p') (x:=X) (q:=Y1) (y:=Y2) (s:=s') R HN.out hds S1.out (by rw[hd];simp) hp' Nh e2 (by omega) hsz
  have Nj:=ah hsw;have t1:((i:Int) !=(j:Int))=true:=by rw[afd];omega
  have t2:decide ((i:Int) >(j:Int))=false:=dF (by omega)
  have QN:(i:Int)<=(j:Int):=by omega
  have i4:(m:Int)+(j:Int) -(i:Int)=(mj:Int):=by omega
  have i5:(j:Int) -(i:Int)=(ji:Int):=by omega
  have b4:mj<4611686018427387904:=by omega
  have b5:ji<4611686018427387904:=by omega
  have r4:IntKind.i64.wrap ((m:Int)+(j:Int))=(m:Int)+(j:Int):=by rw[asy];omega
  have HF:=ah (show(p'.length+Y2.length=m/\Y2.length=i/\Y1.length=ji/\m+Y1.length<=n)/\0<i/\0<ji/\i+ji<=gk - 1/\m+ji<=n/\1<=gk from⟨⟨by omega,e2,e1,by omega⟩,by omega,by omega,by omega,by omega,by omega⟩)
  have HT:=ah (show p' ++(Y1 ++(Y2 ++(X++s')))=T by rw[<-hT];simp)
  clear hsw hd hT hpx Nh hYl hpi hp' e1 e2 S1 hij hi0 hj0 hlt hji hmj hjn;go_wp2_with fail;refine Nj.mono ?_;rintro e w2 ⟨rfl,d2,hd2,S2,hl2⟩;have S3:Aside (SWK enc k w0 blk off d2 w2):=S2;have HL2:=ah hl2;clear S2 hl2;go_wp2
  go_roundg (gk - 1)
  case measure=>have:=HF.out;omega
  obtain⟨h1,h2,h3,h4,h5,-⟩:=HF.out;exact⟨i,ji,d2,rfl,rfl,h2,h3,h4,him,h5,hd2,S3,⟨p',Y2,Y1,X++s',by rw[HL2.out],HT.out,h1⟩⟩
 ·have hsw:=swapRange L FG (g:=g) (cb:=cb) (cap:=cap) (a:=pi) (b:=m) (m:=i) (p:=p') (x:=X) (q:=[]) (y:=Y) (s:=s') R HN.out hds S1.out (by rw[hd];simp) hp' Nh hYl (by simp;omega) hsz
  rw[show p' ++(Y ++([] ++(X++s')))=T by rw[<-hT];simp]at hsw
  have Nj:=ah hsw;have t1:((i:Int) !=(i:Int))=false:=by rw[bne_self_eq_false]
  clear hsw hd hT hpx Nh hYl hpi hp' S1 hij hi0 hj0;go_wp2_with fail;refine Nj.mono ?_;rintro e w2 ⟨rfl,d2,hd2,S2,hl2⟩;have S3:Aside (SWK enc k w0 blk off d2 w2):=S2;have HL2:=ah hl2;clear S2 hl2;go_wp2
  go_end0
  exact⟨rfl,d2,hd2,S3.out,HL2.out⟩
 obtain⟨ij,hji⟩:=aj (i - j);obtain⟨X1,X2,rfl,e1,e2⟩: ∃X1 X2,X=X1++X2/\X1.length=j/\X2.length=ij:=⟨X.take j,X.drop j,(afz j X).symm,by rw[afo];omega,by rw[ae1];omega⟩
 have hsw:=swapRange L FG (g:=g) (cb:=cb) (cap:=cap) (a:=pi) (b:=m) (m:=j) (p:=p') (x:=X1) (q:=X2) (y:=Y) (s:=s') R HN.out hds S1.out (by rw[hd];simp) hp' e1 hYl (by omega) hsz
 have Nj:=ah hsw;have t1:((i:Int) !=(j:Int))=true:=by rw[afd];omega
 have t2:decide ((i:Int) >(j:Int))=true:=aei (by omega)
 have QN:(j:Int)<(i:Int):=by omega
 have i5:(i:Int) -(j:Int)=(ij:Int):=by omega
 have b5:ij<4611686018427387904:=by omega
 rw[aeo]at hpx;have HF:=ah (show((p' ++ Y).length+X2.length=m/\X2.length=ij/\X1.length=j/\m+X1.length<=n)/\0<ij/\0<j/\ij+j<=gk - 1/\m+j<=n/\1<=gk/\ij<=m from⟨⟨by rw[aeo];omega,e2,e1,by omega⟩,by omega,by omega,by omega,by omega,by omega,by omega⟩)
 have HT:=ah (show(p' ++ Y) ++(X1 ++(X2++s'))=T by rw[<-hT];simp)
 clear hsw hd hT hpx Nh hYl hpi hp' e1 e2 S1 hij hi0 hj0 hlt hji hjn;go_wp2_with fail;refine Nj.mono ?_;rintro e w2 ⟨rfl,d2,hd2,S2,hl2⟩;have S3:Aside (SWK enc k w0 blk off d2 w2):=S2;have HL2:=ah hl2;clear S2 hl2;go_wp2
 go_roundg (gk - 1)
 case measure=>have:=HF.out;omega
 obtain⟨h1,h2,h3,h4,h5,-,h6⟩:=HF.out;exact⟨ij,j,d2,rfl,rfl,h2,h3,h4,h6,h5,hd2,S3,⟨p' ++ Y,X2,X1,s',by rw[HL2.out];simp,HT.out,h1⟩⟩
def ren (ρ:Ren):Ren:=⟨fun _=>ρ.f 157,fun t=>if t=0 then ρ.t 0 else if t=3 then ρ.t 3 else if t=4 then ρ.t 4 else if t=22 then ρ.t 23 else if t=24 then ρ.t 37 else ρ.t 119,fun g=>g⟩
def vI.ins {k:Nat} (L:vI P ρ k) (FI:Bears P (ρ.f 157) (SlBodyF.n20 (ren ρ))):SlLaysF0.n20 P (ren ρ):=
 ⟨L.mixed,FI,L.t0,L.a0,L.z0,L.v0,L.t3,L.a3,L.z3,L.v3,L.t4,L.a4,L.z4,L.v4,L.t22,L.a22,L.z22,L.v22,L.t25,L.a25,L.z25,L.v25⟩
def insertion {k:Nat} (L:vI P ρ k) (FI:Bears P (ρ.f 157) (SlBodyF.n20 (ren ρ))) {le:α->α->Bool} (hT:Tot le) {enc:α->List Value} {cf:α->α->Int} (hcf: ∀x y,ltOf cf x y= !le y x) {g:Nat} {cb:Array Value} (eg: ∀args w,(callFunc g args).run P w=.ok (.enter g args) w)
  {blk off cap a b n:Nat} {d0 d:Array α} {w0 w:World} {p x s:List α} (hC:CmpLays P g cb enc k cf blk off n w0) (R:RowK enc k w0 blk off d0) (hn:d0.size=n) (hs:d.size=n) (S:SWK enc k w0 blk off d w) (hl:d.toList=p ++(x++s)) (ha:p.length=a) (hx:a+x.length=b) (hsz:n<4611686018427387904):
  Calls P (ρ.f 157) #[.slice (some ⟨blk,off,none⟩) n cap,.int .i64 a,.int .i64 b,.func (.func g) #[] cb] w fun e w'=>e=.returned (.tuple #[])/\ ∃d' x',d'.size=n/\SWK enc k w0 blk off d' w'/\d'.toList=p ++(x' ++ s)/\bJ le x'/\x'.Perm x:=by
 have hlen:=afL List.length hl;simp only[agR,aeo]at hlen;obtain⟨q,os,hw⟩:=id S;have hH:HoldsK enc k w blk off d:=S.holds R.hblk R.hH (hs.trans hn.symm)
 have hC':CmpLays P g cb enc k cf blk off d.size w:=fun m os' dk hd x y=>by
  obtain⟨m2,os2,e⟩:=S.on R.hblk m dk os' (by rw[hd])
  rw[e];exact hC m2 os2 dk (by omega) x y
 have h:=AnyQ.insertionSortCmpFunc (L.ins FI) k L.aE L.zE enc R.hk R.h1 cf g cb blk off cap a b d w eg hC' hH (S.lt R.hblk) (by omega) (by omega) (by omega)
 rw[hs]at h;have hi:=insertionSort_holds (lt:=ltOf cf) (akv hT hcf) d a b (by omega) (by omega)
 refine h.mono ?_;rintro e w' ⟨rfl,m,os',rfl⟩;obtain⟨x',h1,h2,h3⟩:=akw hi.1 hi.2 hcf hl ha hx;exact⟨rfl,_,x',by rw[hi.1.1,hs],S.on R.hblk m _ os' hi.1.1,h1,h2,h3⟩
end Go.Proofs.YtdijgcnlbfgkdaaGreatDoor.rC
namespace Go.Proofs.YtdijgcnlbfgkdaaGreatDoor.rC
open Go Go.Shelf Go.RowKit Go.Lib Go.Sort Go.Proofs Go.Proofs.YtdijgcnlbfgkdaaGreatDoor.ig Go.Proofs.Tryz
variable {P:Program} {ρ:Ren} {α:Type} [Inhabited α]
def Rw {x y z:Nat} (h:(x+y) / 2=z) (hb:x+y<4611686018427387904):IntKind.i64.wrap ((x:Int)+(y:Int))=(x:Int)+(y:Int)/\IntKind.u64.wrap ((x:Int)+(y:Int))=(x:Int)+(y:Int)/\(((x:Int)+(y:Int)) / 2=(z:Int))/\IntKind.i64.wrap (z:Int)=(z:Int)/\IntKind.u64.wrap (z:Int)=(z:Int):=by
 refine⟨by rw[asy];omega, ?_,by omega,by rw[asy];omega, ?_⟩
 ·unfold IntKind.wrap;simp[IntKind.signed,IntKind.bits];omega
 unfold IntKind.wrap;simp[IntKind.signed,IntKind.bits];omega
def symMerge {k:Nat} (L:vI P ρ k) (FG:Bd P ρ 237 f237) (FR:Bd P ρ 201 f201) (FS:Bd P ρ 158 f158)
  {le:α->α->Bool} (hT:Tot le) {enc:α->List Value} {cf:α->α->Int} (hcf: ∀x y,ltOf cf x y= !le y x) {g:Nat} {cb:Array Value} (eg: ∀args w,(callFunc g args).run P w=.ok (.enter g args) w) {blk off cap n:Nat} {d0:Array α} {w0:World} (hC:CmpLays P g cb enc k cf blk off n w0) (R:RowK enc k w0 blk off d0) (hn:d0.size=n) (hsz:n<2305843009213693952):
  ∀(N a m b:Nat) (d:Array α) (w:World) (p A B s:List α),b - a<=N->d.size=n->SWK enc k w0 blk off d w->d.toList=p ++(A ++(B++s))->p.length=a->a+A.length=m->m+B.length=b->A≠ []->B≠ []->bJ le A->bJ le B->
  Calls P (ρ.f 158) #[.slice (some ⟨blk,off,none⟩) n cap,.int .i64 a,.int .i64 m,.int .i64 b,.func (.func g) #[] cb] w fun e w'=>e=.returned (.tuple #[])/\ ∃d' C,d'.size=n/\SWK enc k w0 blk off d' w'/\d'.toList=p ++(C++s)/\bJ le C/\C.Perm (A++B):=by
 intro N
 induction N with
 |zero=>
  intro a m b d w p A B s hN hs S hl ha hA hB hA0 hB0;have:=afB.2 hA0;omega
 |succ N ih=>
 intro a m b d w p A B s hN hs S hl ha hA hB hA0 hB0 sA sB;have mixed:=L.mixed;have t0:=L.t0;have a0:=L.a0;have z0:=L.z0;have v0:=L.v0;have t3:=L.t3;have a3:=L.a3;have z3:=L.z3;have v3:=L.v3;have t4:=L.t4;have a4:=L.a4;have z4:=L.z4;have v4:=L.v4;have t5:=L.t5;have a5:=L.a5;have z5:=L.z5;have v5:=L.v5;have t22:=L.t22;have a22:=L.a22;have z22:=L.z22;have v22:=L.v22;have t25:=L.t25;have a25:=L.a25;have z25:=L.z25;have v25:=L.v25;have aE:=L.aE;have zE:=L.zE;have u22:=atp L.t22;have eR: ∀args w,(callFunc (ρ.f 201) args).run P w=.ok (.enter (ρ.f 201) args) w:=FR.enters rfl;have eS: ∀args w,(callFunc (ρ.f 158) args).run P w=.ok (.enter (ρ.f 158) args) w:=FS.enters rfl;have hlen:=afL List.length hl;simp only[agR,aeo]at hlen;have hAl:=afB.2 hA0;have hBl:=afB.2 hB0;have ham:a<m:=by omega
 have hmb:m<b:=by omega
 have hbn:b<=n:=by omega
 have S0:Aside (SWK enc k w0 blk off d w):=S;have HC:Aside _:=hC;refine gq9 hcf hT ih hl ha hA hB sA sB fun uK y9 IH HL HP HA HB sG vZ=>?_;refine gq5 hA0 hB0 hs hn hN fun HA0 HB0 HS HN aC=>?_;clear hcf hT ih hl ha hA hB sA sB hA0 hB0 hs hn S hlen hAl hBl hN hC;obtain⟨nm,tg,ps,rt,-,FX⟩:=FS;simp only[f158,afX,sF,Ey,DX,Ew,jX,agQ,ahr]at FX;go_enter FX,afQ;by_cases h1:m=a+1
 ·have i1:(m:Int) -(a:Int)=1:=by omega
  have XT: ∃e,A=[e]:=by
   have:=HA.out
   match A,this with
   |[e],_=>exact⟨e,rfl⟩
   |[],h=>simp at h;omega
   |_ :: _ :: _,h=>simp at h;omega
  obtain⟨e0,XT⟩:=XT;subst XT;have XU:=ah (Go.Proofs.YtdijgcnlbfgkdaaGreatDoor.ig.get_at (d:=d) (p:=p) (s:=B++s) (x:=e0) HL.out HP.out).1;have H1:=ah h1;clear h1;go_wp2_with fail
  go_loopg [10,11] (b - m) (fun kx s10 s11 wr=> ∃(i j:Nat),s10=.int .i64 i/\s11=.int .i64 j/\m<=i/\i<=j/\j<=b/\j - i<=kx/\Aside (SWK enc k w0 blk off d wr)/\Hid ((i=m\/le d[i - 1]! e0=true)/\(j=b\/le e0 d[j]! =true)))
  case atStart=>exact⟨m,b,rfl,rfl,aej _,by omega,aej _,aej _,S0,.inl rfl,.inl rfl⟩
  clear S0;obtain⟨i,j,rfl,rfl,BN,hij,hjb,hk,S1,HQ⟩:=hrel;by_cases hlt:i<j
  ·have afa:(i:Int)<j:=by omega
   obtain⟨h,hh⟩:=aj ((i+j) / 2);obtain⟨q1,q2,q3,q4,q5⟩:=Rw hh (by omega)
   have hi1:i<=h:=by omega
   have hj1:h<j:=by omega
   have hhI:(h:Int)<(n:Int):=by omega
   have haI:(a:Int)<(n:Int):=by omega
   have h0I:(0:Int)<=(h:Int):=by omega
   obtain⟨xh,hxh⟩:=aj (d[h]!);have lh:=fun n' os'=>S1.out.ld R (by rw[HS.out,HN.out]) P h (by rw[HS.out];omega) n' os'
   have la:=fun n' os'=>S1.out.ld R (by rw[HS.out,HN.out]) P a (by rw[HS.out];omega) n' os'
   rw[hxh]at lh;rw[show d[a]! =e0 from XU.out]at la
   have hcg:=fun n' os'=>S1.out.cmp HC.out HS.out xh e0 n' os'
   have xM:=ah hxh;have HHH:=ah hh;have S2:Aside (∀n' os',SWK enc k w0 blk off d (grow (wr.drewN n') os')):=fun n' os'=>S1.out.grown n' os'
   clear hxh hh S1;by_cases hlv:cf xh e0<0
   ·have gI:=ah (show le xh e0=true by
     have h1:=uK.out xh e0;rw[show ltOf cf xh e0=true from aei hlv]at h1
     exact y9.total (by cases h2:le e0 xh with|false=>rfl|true=>rw[h2]at h1;exact absurd h1 (by decide)))
    go_wp2_with fail
    go_quiet_grown (first|(go_at_fn g;refine as9 (hcg _ _)))
    have S3:Aside _:=S2.out nq osq;clear lh la hcg S2
    generalize grow (wr.drewN nq) osq=w2 at S3⊢
    go_wp2
    go_roundg (j -(h+1))
    case measure=>omega
    exact⟨h+1,j,by simp,rfl,by omega,by omega,hjb,aej _,S3,.inr (by rw[aoO,xM.out];exact gI.out),HQ.2⟩
   have gI:=ah (show le e0 xh=true by
    have h1:=uK.out xh e0;rw[show ltOf cf xh e0=false from dF hlv]at h1
    cases h2:le e0 xh with|true=>rfl|false=>rw[h2]at h1;exact absurd h1 (by decide))
   go_wp2_with fail
   go_quiet_grown (first|(go_at_fn g;refine as9 (hcg _ _)))
   have S3:Aside _:=S2.out nq osq;clear lh la hcg S2
   generalize grow (wr.drewN nq) osq=w2 at S3⊢
   go_wp2
   go_roundg (h - i)
   case measure=>omega
   exact⟨i,h,rfl,rfl,BN,hi1,by omega,aej _,S3,HQ.1,.inr (by rw[xM.out];exact gI.out)⟩
  obtain rfl:i=j:=by omega
  have hq:_/\_:=HQ;have qh:=ah hq;clear HQ hq hk;obtain⟨iz,hiz⟩:=aj (i - 1);have i3:(i:Int) - 1=(iz:Int):=by omega
  have S4:Aside (SWK enc k w0 blk off d wr):=S1;have haz:a<=iz:=by omega
  have hzb:iz+1<=b:=by omega
  have HIZ:=ah hiz;clear S1 hiz;go_wp2_with fail
  go_loopg [13] (iz - a) (fun kx s13 wv=> ∃(kk:Nat) (dk:Array α),s13=.int .i64 kk/\a<=kk/\kk+kx=iz/\dk.size=n/\Aside (SWK enc k w0 blk off dk wv)/\Hid (dk.toList=p ++((B.take (kk - a)++e0 :: B.drop (kk - a))++s)))
  case atStart=>exact⟨a,d,rfl,aej _,by omega,HS.out,S4,(show d.toList=_ by rw[HL.out];simp)⟩
  obtain⟨kk,dk,rfl,hak,hkz,hds,S1,HD⟩:=hrel;clear S4;cases gk with
  |zero=>
   obtain rfl:kk=iz:=by omega
   have hln:=aks (e:=e0) (B:=B) (s:=s) y9.out HL.out HP.out (by have:=HB.out;have:=HA.out;simp at this;omega) vZ.out (i:=i) (by omega) (by omega) (qh.out.1.imp (fun h=>by have:=HA.out;simp at this;omega) id) qh.out.2
   have hd:_=_:=HD;rw[show kk - a=i -(a+1) by have:=HIZ.out;omega]at hd
   have HF:=ah (And.intro hd hln);clear hd hln HD;go_wp2
   (try simp only[Exit.inBlock,Exit.then]);refine arW (asR rfl _ _ _) rfl ?_
   exact⟨rfl,dk,_,hds,S1.out,HF.out.1,HF.out.2.1,HF.out.2.2⟩
  |succ kq=>
   have aoI:(kk:Int)<iz:=by omega
   have XV:kk - a<B.length:=by have:=HB.out;omega
   obtain⟨y,hy⟩: ∃z,B[kk - a]?=some z:=⟨_,aen XV⟩;have wY:B.drop (kk - a)=y :: B.drop (kk - a+1):=by rw[afk XV];congr 1;exact aeM ((aen _).symm.trans hy)
   have Ez:B.take (kk - a+1)=B.take (kk - a)++[y]:=by rw[afS,hy];rfl
   have hd:dk.toList=(p++B.take (kk - a))++e0 ::([]++y ::(B.drop (kk - a+1)++s)):=by
    have hd:_=_:=HD;rw[hd,wY];simp
   have hl1:(p++B.take (kk - a)).length=kk:=by rw[aeo,HP.out,afo];omega
   have hsw:=(Vk hd hl1 (j:=kk+1) (by rw[hl1];rfl)).1
   have Nb:=ah (show(swp dk kk (kk+1)).toList=p ++((B.take (kk+1 - a)++e0 :: B.drop (kk+1 - a))++s) by rw[hsw,show kk+1 - a=kk - a+1 by omega,Ez];simp)
   have ea:((kk:Int)).toNat=kk:=by omega
   have pa:(0:Int)<=(kk:Int):=by omega
   have ba:(kk:Int)<(n:Int):=by omega
   have eb:((kk:Int)+1).toNat=kk+1:=by omega
   have pb:(0:Int)<=(kk:Int)+1:=by omega
   have bb:(kk:Int)+1<(n:Int):=by omega
   have rb:IntKind.i64.wrap ((kk:Int)+1)=(kk:Int)+1:=by rw[asy];omega
   have S2:Aside (SWK enc k w0 blk off (swp dk kk (kk+1)) ((wr.drew.setCells blk (off+kk*k) (enc dk[kk+1]!)).setCells blk (off+(kk+1)*k) (enc dk[kk]!))):=S1.out.swapped R kk (kk+1) (by omega) (by omega)
   have la:=S1.out.ld1 R (by rw[HN.out];exact hds) P kk (by omega)
   have lb:=S1.out.ld1 R (by rw[HN.out];exact hds) P (kk+1) (by omega)
   have sa:=S1.out.st1 R (by rw[HN.out];exact hds) P kk (by omega) dk[kk+1]!
   have sb:=S1.out.st2 R (by rw[HN.out];exact hds) P kk (kk+1) (by omega) (by omega) dk[kk+1]! dk[kk]!
   have na:(enc dk[kk]!).length=k:=R.hk _;have nb:(enc dk[kk+1]!).length=k:=R.hk _
   generalize enc dk[kk]! =cI at S2 la sb na
   generalize enc dk[kk+1]! =cJ at S2 lb sa sb nb
   have xH:=ah hkz;clear S1 XV hy wY Ez hd hl1 hsw HD hkz;go_wp2_with fail
   go_big_region_o
   clear la lb sa sb
   generalize (wr.drew.setCells blk (off+kk*k) cJ).setCells blk (off+(kk+1)*k) cI=w2 at S2⊢
   go_wp2
   go_roundg kq
   case measure=>omega
   exact⟨kk+1,swp dk kk (kk+1),by simp,by omega,by have:=xH.out;omega,by rw[size_swp];exact hds,S2,Nb.out⟩
 have t1:((m:Int) -(a:Int) == 1)=false:=by rw[aek];omega
 have H1:=ah h1;clear h1;by_cases h2:b=m+1
 ·have i1:(b:Int) -(m:Int)=1:=by omega
  have XW: ∃e,B=[e]:=by
   have:=HB.out
   match B,this with
   |[e],_=>exact⟨e,rfl⟩
   |[],h=>simp at h;omega
   |_ :: _ :: _,h=>simp at h;omega
  obtain⟨e0,XW⟩:=XW;subst XW;have XU:=ah (Go.Proofs.YtdijgcnlbfgkdaaGreatDoor.ig.get_at (d:=d) (p:=p++A) (s:=s) (x:=e0) (by rw[HL.out];simp) (i:=m) (by rw[aeo,HP.out];exact HA.out)).1
  have H2:=ah h2;clear h2;go_wp2_with fail
  go_loopg [14,15] (m - a) (fun kx s10 s11 wr=> ∃(i j:Nat),s10=.int .i64 i/\s11=.int .i64 j/\a<=i/\i<=j/\j<=m/\j - i<=kx/\Aside (SWK enc k w0 blk off d wr)/\Hid ((i=a\/le d[i - 1]! e0=true)/\(j=m\/le e0 d[j]! =true)))
  case atStart=>exact⟨a,m,rfl,rfl,aej _,by omega,aej _,aej _,S0,.inl rfl,.inl rfl⟩
  clear S0;obtain⟨i,j,rfl,rfl,BN,hij,hjb,hk,S1,HQ⟩:=hrel;by_cases hlt:i<j
  ·have afa:(i:Int)<j:=by omega
   obtain⟨h,hh⟩:=aj ((i+j) / 2);obtain⟨q1,q2,q3,q4,q5⟩:=Rw hh (by omega)
   have hi1:i<=h:=by omega
   have hj1:h<j:=by omega
   have hhI:(h:Int)<(n:Int):=by omega
   have haI:(m:Int)<(n:Int):=by omega
   have h0I:(0:Int)<=(h:Int):=by omega
   obtain⟨xh,hxh⟩:=aj (d[h]!);have lh:=fun n' os'=>S1.out.ld R (by rw[HS.out,HN.out]) P h (by rw[HS.out];omega) n' os'
   have la:=fun n' os'=>S1.out.ld R (by rw[HS.out,HN.out]) P m (by rw[HS.out];omega) n' os'
   rw[hxh]at lh;rw[show d[m]! =e0 from XU.out]at la
   have hcg:=fun n' os'=>S1.out.cmp HC.out HS.out e0 xh n' os'
   have xM:=ah hxh;have HHH:=ah hh;have S2:Aside (∀n' os',SWK enc k w0 blk off d (grow (wr.drewN n') os')):=fun n' os'=>S1.out.grown n' os'
   clear hxh hh S1;by_cases hlv:cf e0 xh<0
   ·have tb:decide (cf e0 xh<0)=true:=aei hlv
    have gI:=ah (show le e0 xh=true by
     have h1:=uK.out e0 xh;rw[show ltOf cf e0 xh=true from aei hlv]at h1
     exact y9.total (by cases h2:le xh e0 with|false=>rfl|true=>rw[h2]at h1;exact absurd h1 (by decide)))
    go_wp2_with fail
    go_quiet_grown (first|(go_at_fn g;refine as9 (hcg _ _)))
    have S3:Aside _:=S2.out nq osq;clear lh la hcg S2
    generalize grow (wr.drewN nq) osq=w2 at S3⊢
    go_wp2
    go_roundg (h - i)
    case measure=>omega
    exact⟨i,h,rfl,rfl,BN,hi1,by omega,aej _,S3,HQ.1,.inr (by rw[xM.out];exact gI.out)⟩
   have tb:decide (cf e0 xh<0)=false:=dF hlv
   have gI:=ah (show le xh e0=true by
    have h1:=uK.out e0 xh;rw[show ltOf cf e0 xh=false from dF hlv]at h1
    cases h2:le xh e0 with|true=>rfl|false=>rw[h2]at h1;exact absurd h1 (by decide))
   go_wp2_with fail
   go_quiet_grown (first|(go_at_fn g;refine as9 (hcg _ _)))
   have S3:Aside _:=S2.out nq osq;clear lh la hcg S2
   generalize grow (wr.drewN nq) osq=w2 at S3⊢
   go_wp2
   go_roundg (j -(h+1))
   case measure=>omega
   exact⟨h+1,j,by simp,rfl,by omega,by omega,hjb,aej _,S3,.inr (by rw[aoO,xM.out];exact gI.out),HQ.2⟩
  obtain rfl:i=j:=by omega
  have hq:_/\_:=HQ;have qh:=ah hq;have S4:Aside (SWK enc k w0 blk off d wr):=S1;clear HQ hq hk S1;go_wp2_with fail
  go_loopg [17] (m - i) (fun kx s13 wv=> ∃(kk:Nat) (dk:Array α),s13=.int .i64 kk/\kk<=m/\kk=i+kx/\dk.size=n/\Aside (SWK enc k w0 blk off dk wv)/\Hid (dk.toList=p ++((A.take (kk - a)++e0 :: A.drop (kk - a))++s)))
  case atStart=>exact⟨m,d,rfl,aej _,by omega,HS.out,S4,(show d.toList=_ by rw[HL.out,aeG (by have:=HA.out;omega),agS (by have:=HA.out;omega)];simp)⟩
  obtain⟨kk,dk,rfl,hak,hkz,hds,S1,HD⟩:=hrel;clear S4;cases gk with
  |zero=>
   have hki:kk=i:=by omega
   have fQ:(kk:Int)<=(i:Int):=by omega
   have hln:=akt (e:=e0) (A:=A) (s:=s) y9.out (by rw[HL.out];rfl) HP.out HA.out sG.out (i:=i) (by omega) (by omega) qh.out.1 qh.out.2
   have hd:_=_:=HD;rw[hki]at hd;have HF:=ah (And.intro hd hln);clear hd hln HD hki hkz;go_wp2
   (try simp only[Exit.inBlock,Exit.then]);refine arW (asR rfl _ _ _) rfl ?_
   exact⟨rfl,dk,_,hds,S1.out,HF.out.1,HF.out.2.1,HF.out.2.2⟩
  |succ kq=>
   obtain⟨kp,rfl⟩: ∃kp,kk=kp+1:=⟨kk - 1,by omega⟩
   have aoI:(i:Int)<(kp:Int)+1:=by omega
   have hAk:kp - a<A.length:=by have:=HA.out;omega
   obtain⟨y,hy⟩: ∃z,A[kp - a]?=some z:=⟨_,aen hAk⟩;have wY:A.drop (kp - a)=y :: A.drop (kp - a+1):=by rw[afk hAk];congr 1;exact aeM ((aen _).symm.trans hy)
   have Ez:A.take (kp - a+1)=A.take (kp - a)++[y]:=by rw[afS,hy];rfl
   have hd:dk.toList=(p++A.take (kp - a))++y ::([]++e0 ::(A.drop (kp - a+1)++s)):=by
    have hd:_=_:=HD;rw[hd,show kp+1 - a=kp - a+1 by omega,Ez]
    simp
   have hl1:(p++A.take (kp - a)).length=kp:=by rw[aeo,HP.out,afo];omega
   have hsw:=(Vk hd hl1 (j:=kp+1) (by rw[hl1];rfl)).2
   have Nb:=ah (show(swp dk (kp+1) kp).toList=p ++((A.take (kp - a)++e0 :: A.drop (kp - a))++s) by rw[hsw,wY];simp)
   have ea:((kp:Int)).toNat=kp:=by omega
   have pa:(0:Int)<=(kp:Int):=by omega
   have ba:(kp:Int)<(n:Int):=by omega
   have ra:IntKind.i64.wrap (kp:Int)=(kp:Int):=by rw[asy];omega
   have eb:((kp:Int)+1).toNat=kp+1:=by omega
   have pb:(0:Int)<=(kp:Int)+1:=by omega
   have bb:(kp:Int)+1<(n:Int):=by omega
   have S2:Aside (SWK enc k w0 blk off (swp dk (kp+1) kp) ((wr.drew.setCells blk (off+(kp+1)*k) (enc dk[kp]!)).setCells blk (off+kp*k) (enc dk[kp+1]!))):=S1.out.swapped R (kp+1) kp (by omega) (by omega)
   have la:=S1.out.ld1 R (by rw[HN.out];exact hds) P kp (by omega)
   have lb:=S1.out.ld1 R (by rw[HN.out];exact hds) P (kp+1) (by omega)
   have sa:=S1.out.st1 R (by rw[HN.out];exact hds) P (kp+1) (by omega) dk[kp]!
   have sb:=S1.out.st2 R (by rw[HN.out];exact hds) P (kp+1) kp (by omega) (by omega) dk[kp]! dk[kp+1]!
   have na:(enc dk[kp]!).length=k:=R.hk _;have nb:(enc dk[kp+1]!).length=k:=R.hk _
   generalize enc dk[kp]! =cI at S2 la sa sb na
   generalize enc dk[kp+1]! =cJ at S2 lb sb nb
   have xH:=ah hkz;clear S1 hAk hy wY Ez hd hl1 hsw HD hkz;go_wp2_with fail
   go_big_region_o
   clear la lb sa sb
   generalize (wr.drew.setCells blk (off+(kp+1)*k) cI).setCells blk (off+kp*k) cJ=w2 at S2⊢
   go_wp2
   go_roundg kq
   case measure=>omega
   exact⟨kp,swp dk (kp+1) kp,by simp,by omega,by have:=xH.out;omega,by rw[size_swp];exact hds,S2,Nb.out⟩
 have t2:((b:Int) -(m:Int) == 1)=false:=by rw[aek];omega
 have H2:=ah h2;clear h2;obtain⟨mid,hmid⟩:=aj ((a+b) / 2);obtain⟨q1,q2,q3,q4,q5⟩:=Rw hmid (by omega)
 have hm1:a<mid:=by have:=H1.out;have:=H2.out;omega
 have hm2:mid<b:=by omega
 have afe:=ah hmid;obtain⟨lo,hlo⟩:=aj (if mid<m then mid+m - b else a)
 obtain⟨hi,hhi⟩:=aj (if mid<m then mid else m)
 have aff:(mid<m/\lo=mid+m - b/\hi=mid)\/(m<=mid/\lo=a/\hi=m):=by
  by_cases h:mid<m
  ·rw[aeu h]at hlo hhi;exact .inl ⟨h,hlo.symm,hhi.symm⟩
  rw[aer h]at hlo hhi;exact .inr ⟨by omega,hlo.symm,hhi.symm⟩
 have lg:=ah aff;have r6:IntKind.i64.wrap ((mid:Int)+(m:Int))=(mid:Int)+(m:Int):=by rw[asy];omega
 clear hlo hhi aff hmid
 go_upto_if 140 with fail
 go_cut [20,21] from 25 (fun s20 WT wx=>s20=.int .i64 (lo:Int)/\WT=.int .i64 (hi:Int)/\w=wx)
 case first=>
  rcases lg.out with⟨h1,h2,h3⟩|⟨h1,h2,h3⟩
  ·have hI:(mid:Int)<(m:Int):=by omega
   have e1:(mid:Int)+(m:Int) -(b:Int)=(lo:Int):=by have:=afe.out;omega
   have b1:lo<4611686018427387904:=by omega
   have h3':=ah h3;clear h1 h2 h3;go_wp2_with fail;go_meet;exact⟨rfl,by rw[h3'.out],rfl⟩
  have hI:(m:Int)<=(mid:Int):=by omega
  have h3':=ah (And.intro h2 h3);clear h1 h2 h3;go_wp2_with fail;go_meet;exact⟨by rw[h3'.out.1],by rw[h3'.out.2],rfl⟩
 case rest=>
 obtain⟨rfl,rfl,rfl⟩:=hcut;have hl1:a<=lo:=by have:=lg.out;have:=afe.out;omega
 have hl2:lo<=hi:=by have:=lg.out;omega
 have hl3:hi<=m:=by have:=lg.out;omega
 have hl4:hi<=mid:=by have:=lg.out;omega
 have hl5:mid+m - lo<=b:=by have:=lg.out;omega
 obtain⟨pe,hpe⟩:=aj (mid+m - 1);have e1:(mid:Int)+(m:Int) - 1=(pe:Int):=by omega
 have b1:pe<4611686018427387904:=by omega
 have Rx:=ah hpe;clear hpe;go_wp2_with fail
 go_loopg [20,21] (hi - lo) (fun kx s10 s11 wr=> ∃(i j:Nat),s10=.int .i64 i/\s11=.int .i64 j/\lo<=i/\i<=j/\j<=hi/\j - i<=kx/\Aside (SWK enc k w0 blk off d wr)/\Hid ((i=lo\/le d[i - 1]! d[pe -(i - 1)]! =true)/\(j=hi\/le d[pe - j]! d[j]! =true)))
 case atStart=>exact⟨lo,hi,rfl,rfl,aej _,hl2,aej _,aej _,S0,.inl rfl,.inl rfl⟩
 clear S0;obtain⟨i,j,rfl,rfl,BN,hij,hjb,hk,S1,HQ⟩:=hrel;by_cases hlt:i<j
 ·have afa:(i:Int)<j:=by omega
  obtain⟨h,hh⟩:=aj ((i+j) / 2);obtain⟨q1,q2,q3,q4,q5⟩:=Rw hh (by omega)
  have hi1:i<=h:=by omega
  have hj1:h<j:=by omega
  obtain⟨ph,hph⟩:=aj (pe - h);have aq0:ph<n:=by have:=Rx.out;omega
  have ep:(pe:Int) -(h:Int)=(ph:Int):=by have:=Rx.out;omega
  have hhI:(h:Int)<(n:Int):=by omega
  have hpI:(ph:Int)<(n:Int):=by omega
  have h0I:(0:Int)<=(h:Int):=by omega
  have h0p:(0:Int)<=(ph:Int):=by omega
  have rp:IntKind.i64.wrap (ph:Int)=(ph:Int):=by rw[asy];omega
  obtain⟨xh,hxh⟩:=aj (d[h]!);obtain⟨xp,hxp⟩:=aj (d[ph]!);have lh:=fun n' os'=>S1.out.ld R (by rw[HS.out,HN.out]) P h (by rw[HS.out];omega) n' os'
  have la:=fun n' os'=>S1.out.ld R (by rw[HS.out,HN.out]) P ph (by rw[HS.out];omega) n' os'
  rw[hxh]at lh;rw[hxp]at la;have hcg:=fun n' os'=>S1.out.cmp HC.out HS.out xp xh n' os'
  have xM:=ah (And.intro hxh (And.intro hxp hph));have HHH:=ah hh;have S2:Aside (∀n' os',SWK enc k w0 blk off d (grow (wr.drewN n') os')):=fun n' os'=>S1.out.grown n' os'
  clear hxh hxp hph hh S1;by_cases hlv:cf xp xh<0
  ·have tb:decide (cf xp xh<0)=true:=aei hlv
   have gI:=ah (show le xp xh=true by
    have h1:=uK.out xp xh;rw[show ltOf cf xp xh=true from aei hlv]at h1
    exact y9.total (by cases h2:le xh xp with|false=>rfl|true=>rw[h2]at h1;exact absurd h1 (by decide)))
   go_wp2_with fail
   go_quiet_grown (first|(go_at_fn g;refine as9 (hcg _ _)))
   have S3:Aside _:=S2.out nq osq;clear lh la hcg S2
   generalize grow (wr.drewN nq) osq=w2 at S3⊢
   go_wp2
   go_roundg (h - i)
   case measure=>omega
   exact⟨i,h,rfl,rfl,BN,hi1,by omega,aej _,S3,HQ.1,.inr (by rw[xM.out.2.2,xM.out.2.1,xM.out.1];exact gI.out)⟩
  have tb:decide (cf xp xh<0)=false:=dF hlv
  have gI:=ah (show le xh xp=true by
   have h1:=uK.out xp xh;rw[show ltOf cf xp xh=false from dF hlv]at h1
   cases h2:le xh xp with|true=>rfl|false=>rw[h2]at h1;exact absurd h1 (by decide))
  go_wp2_with fail
  go_quiet_grown (first|(go_at_fn g;refine as9 (hcg _ _)))
  have S3:Aside _:=S2.out nq osq;clear lh la hcg S2
  generalize grow (wr.drewN nq) osq=w2 at S3⊢
  go_wp2
  go_roundg (j -(h+1))
  case measure=>omega
  exact⟨h+1,j,by simp,rfl,by omega,by omega,hjb,aej _,S3,.inr (by rw[aoO,xM.out.2.2,xM.out.2.1,xM.out.1];exact gI.out),HQ.2⟩
 have aoJ:(j:Int)<=(i:Int):=by omega
 have hij':j=i:=by omega
 have hq:_/\_:=HQ;rw[hij']at hq
 have hsp:=aku (mid:=mid) (st:=i) HL.out HP.out HA.out HB.out (by omega) (by omega) (by omega) (by omega)
  (by
   rcases hq.1 with h|h
   ·have:=lg.out
    rcases this with⟨_,h2,_⟩|⟨_,h2,_⟩
    ·exact .inr (.inl (by omega))
    exact .inl (by omega)
   by_cases e:i=a
   ·exact .inl e
   exact .inr (.inr (by rw[show mid+m - 1 -(i - 1)=pe -(i - 1) by rw[Rx.out]];exact h)))
  (by
   rcases hq.2 with h|h
   ·have:=lg.out
    rcases this with⟨_,_,h2⟩|⟨_,_,h2⟩
    ·exact .inr (.inl (by omega))
    exact .inl (by omega)
   exact .inr (.inr (by rw[Rx.out];exact h)))
 have nS:=ah hsp;obtain⟨en,hen⟩:=aj (mid+m - i);have i6:(mid:Int)+(m:Int) -(i:Int)=(en:Int):=by omega
 have b6:en<4611686018427387904:=by omega
 obtain⟨A1,A2,afh,Ry,Rz⟩: ∃A1 A2,A=A1++A2/\A1=A.take (i - a)/\A2=A.drop (i - a):=⟨_,_,(afz (i - a) A).symm,rfl,rfl⟩;obtain⟨B1,B2,afi,RD,Nk⟩: ∃B1 B2,B=B1++B2/\B1=B.take (mid - i)/\B2=B.drop (mid - i):=⟨_,_,(afz (mid - i) B).symm,rfl,rfl⟩
 have ln:A1.length=i - a/\A2.length=m - i/\B1.length=mid - i/\B2.length=b - en:=by
  have h1:=HA.out;have h2:=HB.out;rw[Ry,Rz,RD,Nk];simp only[afo,ae1];omega
 have afj:=fun(S1 S2:List α) (p1:S1.Perm (A1++B1)) (s1:bJ le S1) (p2:S2.Perm (A2++B2)) (s2:bJ le S2)=>akr y9.out sG.out vZ.out hsp.1 hsp.2 (by rw[<-Ry,<-RD];exact p1) s1 (by rw[<-Rz,<-Nk];exact p2) s2
 have HMG:=ah afj
 have hs4:bJ le A1/\bJ le A2/\bJ le B1/\bJ le B2:=by
  rw[Ry,Rz,RD,Nk];exact⟨aoy (aqZ _ _) sG.out,aoy (apN _ _) sG.out,aoy (aqZ _ _) vZ.out,aoy (apN _ _) vZ.out⟩
 have gG:=ah hs4;have bT:=ah (show A1.length=i - a/\A2.length=m - i/\B1.length=mid - i/\B2.length=b - en/\mid+m=en+i/\a<=i/\i<=m/\i<=mid/\en<=b from⟨ln.1,ln.2.1,ln.2.2.1,ln.2.2.2,by omega,by omega,by omega,by omega,by omega⟩)
 have HL2:=ah (show d.toList=p ++(A1 ++(A2 ++(B1 ++(B2++s)))) by rw[HL.out,afh,afi];simp)
 have S4:Aside (SWK enc k w0 blk off d wr):=S1;clear hq hsp HQ hij' hen afh afi Ry Rz RD Nk ln afj hs4 hk S1;have hq5:=bT.out
 have HLc:=ah (fun(d1:Array α) (w5:World) (h1:d1.size=n) (h2:SWK enc k w0 blk off d1 w5) (h3:d1.toList=p ++((A1++B1) ++((A2++B2)++s))) (c1:a<i) (c2:i<mid)=>
  IH.out a i mid d1 w5 p A1 B1 ((A2++B2)++s) (by have:=aC.out;omega) h1 h2 (by rw[h3];simp) HP.out (by rw[bT.out.1];omega) (by rw[bT.out.2.2.1];omega) (afB.1 (by rw[bT.out.1];omega)) (afB.1 (by rw[bT.out.2.2.1];omega)) gG.out.1 gG.out.2.2.1)
 have XY:=ah (fun(d1:Array α) (C1:List α) (w5:World) (h1:d1.size=n) (h2:SWK enc k w0 blk off d1 w5) (h3:d1.toList=p ++(C1 ++((A2++B2)++s))) (h4:C1.length=mid - a) (c1:mid<en) (c2:en<b)=>
  IH.out mid en b d1 w5 (p++C1) A2 B2 s (by have:=aC.out;omega) h1 h2 (by rw[h3];simp) (by rw[aeo,HP.out,h4];omega) (by rw[bT.out.2.1];have:=bT.out;omega) (by rw[bT.out.2.2.2.1];omega) (afB.1 (by rw[bT.out.2.1];have:=bT.out;omega)) (afB.1 (by rw[bT.out.2.2.2.1];omega)) gG.out.2.1 gG.out.2.2.2)
 have GR:=ah (fun(d1:Array α) (C1 C2:List α) (h3:d1.toList=p ++(C1 ++(C2++s))) (s1:bJ le C1) (p1:C1.Perm (A1++B1)) (s2:bJ le C2) (p2:C2.Perm (A2++B2))=>show d1.toList=p ++((C1++C2)++s)/\bJ le (C1++C2)/\(C1++C2).Perm (A++B) from⟨by rw[h3];simp,HMG.out C1 C2 p1 s1 p2 s2⟩)
 have mM:(A1++B1).length=mid - a:=by rw[aeo,hq5.1,hq5.2.2.1];omega
 have vY:=ah mM;by_cases x:i<m
 ·have xI:(i:Int)<(m:Int):=by omega
  by_cases y:i<mid
  ·have yI:(i:Int)<(mid:Int):=by omega
   have c1:(m:Int)<(en:Int):=by omega
   have c3:(mid:Int)<(en:Int):=by omega
   have hro:=rotate L FG FR (g:=g) (cb:=cb) (cap:=cap) (a:=i) (m:=m) (b:=en) (p:=p++A1) (x:=A2) (y:=B1) (s:=B2++s) R HN.out HS.out S4.out (by rw[HL2.out];simp) (by rw[aeo,HP.out,bT.out.1];omega) (by rw[bT.out.2.1];omega) (by rw[bT.out.2.2.1];omega) (afB.1 (by rw[bT.out.2.1];omega)) (afB.1 (by rw[bT.out.2.2.1];omega)) (by omega)
   refine gq3 hro x y fun HRO hX hY=>?_;have afl:=ah (show mid<en by omega)
   clear hro hq5 mM x y;go_wp2_with fail;refine HRO.mono ?_;rintro e w5 ⟨rfl,d1,h1,h2,h3⟩;have S5:Aside (SWK enc k w0 blk off d1 w5):=h2;have H5:=ah (show d1.size=n/\d1.toList=p ++((A1++B1) ++((A2++B2)++s)) from⟨h1,by rw[h3];simp⟩)
   clear h1 h2 h3 S4;by_cases z:a<i
   ·have zI:(a:Int)<(i:Int):=by omega
    have XZ:=ah (HLc.out d1 w5 H5.out.1 S5.out H5.out.2 z hY.out);clear z;go_wp2_with fail;refine XZ.mono ?_;rintro e w6 ⟨rfl,d2,C1,h1,h2,h3,h4,h5⟩;have S6:Aside (SWK enc k w0 blk off d2 w6):=h2;have H6:=ah (show d2.size=n/\d2.toList=p ++(C1 ++((A2++B2)++s))/\bJ le C1/\C1.Perm (A1++B1) from⟨h1,h3,h4,h5⟩)
    clear h1 h2 h3 h4 h5 S5 H5;by_cases t:en<b
    ·have tI:(en:Int)<(b:Int):=by omega
     have Nl:=ah (XY.out d2 C1 w6 H6.out.1 S6.out H6.out.2.1 (by rw[H6.out.2.2.2.length_eq];exact vY.out) afl.out t)
     clear t;go_wp2_with fail;refine Nl.mono ?_;rintro e w7 ⟨rfl,d3,C2,h1,h2,h3,h4,h5⟩;have S7:Aside (SWK enc k w0 blk off d3 w7):=h2;have H7:=ah (And.intro h1 (GR.out d3 C1 C2 (by rw[h3];simp) H6.out.2.2.1 H6.out.2.2.2 h4 h5))
     clear h1 h2 h3 h4 h5;go_wp2
     go_end0
     exact⟨rfl,d3,_,H7.out.1,S7.out,H7.out.2⟩
    have tI:(b:Int)<=(en:Int):=by omega
    have hB2:B2=[]:=aeI (by rw[bT.out.2.2.2.1];omega)
    have H7:=ah (GR.out d2 C1 (A2++B2) H6.out.2.1 H6.out.2.2.1 H6.out.2.2.2 (by rw[hB2,afy];exact gG.out.2.1) (.refl _))
    clear t hB2;go_wp2
    go_end0
    exact⟨rfl,d2,_,H6.out.1,S6.out,H7.out⟩
   have zI:(i:Int)<=(a:Int):=by omega
   have hA1:A1=[]:=aeI (by rw[bT.out.1];omega)
   have hs1:=ah (show bJ le (A1++B1) by rw[hA1,agJ];exact gG.out.2.2.1)
   clear hA1 z;by_cases t:en<b
   ·have tI:(en:Int)<(b:Int):=by omega
    have Nl:=ah (XY.out d1 (A1++B1) w5 H5.out.1 S5.out H5.out.2 vY.out afl.out t);clear t;go_wp2_with fail;refine Nl.mono ?_;rintro e w7 ⟨rfl,d3,C2,h1,h2,h3,h4,h5⟩;have S7:Aside (SWK enc k w0 blk off d3 w7):=h2;have H7:=ah (And.intro h1 (GR.out d3 (A1++B1) C2 (by rw[h3];simp) hs1.out (.refl _) h4 h5))
    clear h1 h2 h3 h4 h5;go_wp2
    go_end0
    exact⟨rfl,d3,_,H7.out.1,S7.out,H7.out.2⟩
   have tI:(b:Int)<=(en:Int):=by omega
   have hB2:B2=[]:=aeI (by rw[bT.out.2.2.2.1];omega)
   have H7:=ah (GR.out d1 (A1++B1) (A2++B2) H5.out.2 hs1.out (.refl _) (by rw[hB2,afy];exact gG.out.2.1) (.refl _))
   clear t hB2;go_wp2
   go_end0
   exact⟨rfl,d1,_,H5.out.1,S5.out,H7.out⟩
  have yI:(mid:Int)<=(i:Int):=by omega
  have c1:(en:Int)<=(m:Int):=by omega
  have zI:(a:Int)<(i:Int):=by omega
  have c3:(mid:Int)<(en:Int):=by omega
  have tI:(en:Int)<(b:Int):=by omega
  have hB1:B1=[]:=aeI (by rw[hq5.2.2.1];omega)
  have hs1:=ah (show bJ le (A1++B1) by rw[hB1,afy];exact gG.out.1)
  have Nl:=ah (XY.out d (A1++B1) wr HS.out S4.out (by rw[HL2.out,hB1];simp) vY.out (by omega) (by omega))
  clear hq5 mM x y hB1;go_wp2_with fail;refine Nl.mono ?_;rintro e w7 ⟨rfl,d3,C2,h1,h2,h3,h4,h5⟩;have S7:Aside (SWK enc k w0 blk off d3 w7):=h2;have H7:=ah (And.intro h1 (GR.out d3 (A1++B1) C2 (by rw[h3];simp) hs1.out (.refl _) h4 h5))
  clear h1 h2 h3 h4 h5;go_wp2
  go_end0
  exact⟨rfl,d3,_,H7.out.1,S7.out,H7.out.2⟩
 have xI:(m:Int)<=(i:Int):=by omega
 have zI:(a:Int)<(i:Int):=by omega
 have c3:(en:Int)<=(mid:Int):=by omega
 have hA2:A2=[]:=aeI (by rw[hq5.2.1];omega)
 have hs2:=ah (show bJ le (A2++B2) by rw[hA2,agJ];exact gG.out.2.2.2)
 have hd0:=ah (show d.toList=p ++((A1++B1) ++((A2++B2)++s)) by rw[HL2.out,hA2];simp)
 by_cases y:i<mid
 ·have yI:(i:Int)<(mid:Int):=by omega
  have XZ:=ah (HLc.out d wr HS.out S4.out hd0.out (by omega) y)
  clear hq5 mM x y hA2;go_wp2_with fail;refine XZ.mono ?_;rintro e w6 ⟨rfl,d2,C1,h1,h2,h3,h4,h5⟩;have S6:Aside (SWK enc k w0 blk off d2 w6):=h2;have H7:=ah (And.intro h1 (GR.out d2 C1 (A2++B2) h3 h4 h5 hs2.out (.refl _)));clear h1 h2 h3 h4 h5;go_wp2
  go_end0
  exact⟨rfl,d2,_,H7.out.1,S6.out,H7.out.2⟩
 have yI:(mid:Int)<=(i:Int):=by omega
 have hB1:B1=[]:=aeI (by rw[hq5.2.2.1];omega)
 have H7:=ah (GR.out d (A1++B1) (A2++B2) hd0.out (by rw[hB1,afy];exact gG.out.1) (.refl _) hs2.out (.refl _))
 clear hq5 mM x y hA2 hB1;go_wp2
 go_end0
 exact⟨rfl,d,_,HS.out,S4.out,H7.out⟩
end Go.Proofs.YtdijgcnlbfgkdaaGreatDoor.rC
