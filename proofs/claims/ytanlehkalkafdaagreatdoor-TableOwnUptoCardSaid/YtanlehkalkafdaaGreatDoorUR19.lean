/- Contracts and plain laws,part 19. -/
import Derived.Test.YtanlehkalkafdaaGreatDoorUR18
import Derived.Shelf.SlSortCmp.KitK
import Derived.Sort.WalkB2
import Derived.Sort.WalkB12
set_option maxHeartbeats 64000000
set_option maxRecDepth 1000000
set_option linter.all false
namespace Go.Proofs.YtanlehkalkafdaaGreatDoor.StbG
open Go Go.Shelf Go.RowKit Go.Lib Go.Sort Go.Proofs Go.Proofs.YtanlehkalkafdaaGreatDoor.Stb
variable {P:Program} {ρ:Ren} {α:Type} [Inhabited α]
structure LayS (P:Program) (ρ:Ren) (k:Nat):Prop where
 mixed:P.follows .mixedOrders=true
 t0:P.underlying (ρ.t 0)=some (.tuple #[])
 a0: ∀w,(isAgg (ρ.t 0)).run P w=.ok false w
 z0: ∀w,(Go.sizeOf (ρ.t 0)).run P w=.ok 1 w
 v0: ∀w,(zeroValue (ρ.t 0)).run P w=.ok (.tuple #[]) w
 t3:P.underlying (ρ.t 3)=some (.int .i64)
 a3: ∀w,(isAgg (ρ.t 3)).run P w=.ok false w
 z3: ∀w,(Go.sizeOf (ρ.t 3)).run P w=.ok 1 w
 v3: ∀w,(zeroValue (ρ.t 3)).run P w=.ok (.int .i64 0) w
 t4:P.underlying (ρ.t 4)=some .bool
 a4: ∀w,(isAgg (ρ.t 4)).run P w=.ok false w
 z4: ∀w,(Go.sizeOf (ρ.t 4)).run P w=.ok 1 w
 v4: ∀w,(zeroValue (ρ.t 4)).run P w=.ok (.bool false) w
 t5:P.underlying (ρ.t 155)=some (.int .u64)
 a5: ∀w,(isAgg (ρ.t 155)).run P w=.ok false w
 z5: ∀w,(Go.sizeOf (ρ.t 155)).run P w=.ok 1 w
 v5: ∀w,(zeroValue (ρ.t 155)).run P w=.ok (.int .u64 0) w
 t22:P.underlying (ρ.t 22)=some (.slice (ρ.t 48))
 a22: ∀w,(isAgg (ρ.t 22)).run P w=.ok false w
 z22: ∀w,(Go.sizeOf (ρ.t 22)).run P w=.ok 1 w
 v22: ∀w,(zeroValue (ρ.t 22)).run P w=.ok (.slice none 0 0) w
 t25:P.underlying (ρ.t 136)=some (.func #[(ρ.t 48),(ρ.t 48)] #[(ρ.t 3)] false)
 a25: ∀w,(isAgg (ρ.t 136)).run P w=.ok false w
 z25: ∀w,(Go.sizeOf (ρ.t 136)).run P w=.ok 1 w
 v25: ∀w,(zeroValue (ρ.t 136)).run P w=.ok .nilFunc w
 aE: ∀w,(isAgg (ρ.t 48)).run P w=.ok true w
 zE: ∀w,(Go.sizeOf (ρ.t 48)).run P w=.ok k w
theorem swapRange {k:Nat} (L:LayS P ρ k) (FG:Bd P ρ 252 Tryz.f252) {enc:α->List Value} {g:Nat} {cb:Array Value} {blk off cap a b m n:Nat} {d0 d:Array α} {w0 w:World} {p x q y s:List α}
  (R:RowK enc k w0 blk off d0) (hn:d0.size=n) (hs:d.size=n) (S:SWK enc k w0 blk off d w) (hl:d.toList=p ++(x ++(q ++(y++s)))) (ha:p.length=a) (hx:x.length=m) (hy:y.length=m) (hb:a+m+q.length=b) (hsz:n<4611686018427387904):
  Calls P (ρ.f 252) #[.slice (some ⟨blk,off,none⟩) n cap,.int .i64 a,.int .i64 b,.int .i64 m,.func (.func g) #[] cb] w fun e w'=>e=.returned (.tuple #[])/\ ∃d',d'.size=n/\SWK enc k w0 blk off d' w'/\d'.toList=p ++(y ++(q ++(x++s))):=by
 have mixed:=L.mixed;have t0:=L.t0;have a0:=L.a0;have z0:=L.z0;have v0:=L.v0;have t3:=L.t3;have a3:=L.a3;have z3:=L.z3;have v3:=L.v3;have t4:=L.t4;have a4:=L.a4;have z4:=L.z4;have v4:=L.v4;have t22:=L.t22;have a22:=L.a22;have z22:=L.z22;have v22:=L.v22;have t25:=L.t25;have a25:=L.a25;have z25:=L.z25;have v25:=L.v25;have aE:=L.aE;have zE:=L.zE
 have u22:=run_underlying L.t22;have hlen:=uo List.length hl;simp only[vH,rP]at hlen
 have hbn:b+m<=n:=by omega
 have S0:Aside (SWK enc k w0 blk off d w):=S;have HS:=ah hs;have HL:=ah hl;have HA:=ah ha
 have HX:=ah hx;have HY:=ah hy;have HB:=ah hb;have HN:=ah hn;have hab:a+m<=b:=by omega
 clear S hl ha hx hy hb hlen hs hn;obtain⟨nm,tg,ps,rt,-,FX⟩:=FG
 simp only[Tryz.f252,vg,rnC,rnR,rnOp,rnE,rnO,tV,uT]at FX;go_enter FX,uO;go_wp2
 go_loopg [10] m (fun kx s10 wr=> ∃(i:Nat) (dk:Array α),s10=.int .i64 i/\i+kx=m/\dk.size=n/\Aside (SWK enc k w0 blk off dk wr)/\Hid (dk.toList=p ++((y.take i++x.drop i) ++(q ++((x.take i++y.drop i)++s)))))
 case atStart=>exact⟨0,d,rfl,by omega,HS.out,S0,(show d.toList=_ by rw[HL.out];simp)⟩
 clear S0;obtain⟨i,dk,rfl,hk,hds,S1,HD⟩:=hrel;cases gk with
 |zero=>
  obtain rfl:i=m:=by omega
  have hd:_=_:=HD
  rw[sG (show y.length<=i by rw[HY.out];exact rM _),sG (show x.length<=i by rw[HX.out];exact rM _),uq (show y.length<=i by rw[HY.out];exact rM _),uq (show x.length<=i by rw[HX.out];exact rM _),tC,tC]at hd
  have HDF:=ah hd;clear hd;go_wp2
  go_end0
  exact⟨rfl,dk,hds,S1.out,HDF.out⟩
 |succ kq=>
  have him:i<m:=by omega
  have himI:(i:Int)<m:=by omega
  obtain⟨xi,hxi⟩: ∃z,x[i]?=some z:=⟨_,ay (by rw[HX.out];exact him)⟩
  obtain⟨yi,hyi⟩: ∃z,y[i]?=some z:=⟨_,ay (by rw[HY.out];exact him)⟩
  have hxd:x.drop i=xi :: x.drop (i+1):=by rw[tJ (by rw[HX.out];exact him)];congr 1;exact tN ((ay _).symm.trans hxi)
  have hyd:y.drop i=yi :: y.drop (i+1):=by rw[tJ (by rw[HY.out];exact him)];congr 1;exact tN ((ay _).symm.trans hyi)
  have hxt:x.take (i+1)=x.take i++[xi]:=by rw[uM,hxi];rfl
  have hyt:y.take (i+1)=y.take i++[yi]:=by rw[uM,hyi];rfl
  have hd:dk.toList=(p++y.take i)++xi ::((x.drop (i+1)++q++x.take i)++yi ::(y.drop (i+1)++s)):=by
   have hd:_=_:=HD;rw[hd,hxd,hyd];simp
  obtain⟨ai,hai⟩:=aj (a+i);obtain⟨bi,hbi⟩:=aj (b+i)
  have hl1:(p++y.take i).length=ai:=by rw[rP,HA.out,tK,HY.out];omega
  have hl2:(p++y.take i).length+1+(x.drop (i+1)++q++x.take i).length=bi:=by
   have h1:=HB.out;rw[hl1];simp only[rP,tK,uJ,HX.out];omega
  have hsw:=(swp_list hd hl1 hl2).1
  have HDN:=ah (show(swp dk ai bi).toList=p ++((y.take (i+1)++x.drop (i+1)) ++(q ++((x.take (i+1)++y.drop (i+1))++s))) by rw[hsw,hxt,hyt];simp)
  have ea:((a:Int)+(i:Int)).toNat=ai:=by omega
  have pa:(0:Int)<=(a:Int)+(i:Int):=by omega
  have ba:(a:Int)+(i:Int)<(n:Int):=by omega
  have ra:IntKind.i64.wrap ((a:Int)+(i:Int))=(a:Int)+(i:Int):=by rw[IntKind.wrap_i64];omega
  have eb:((b:Int)+(i:Int)).toNat=bi:=by omega
  have pb:(0:Int)<=(b:Int)+(i:Int):=by omega
  have bb:(b:Int)+(i:Int)<(n:Int):=by omega
  have rb:IntKind.i64.wrap ((b:Int)+(i:Int))=(b:Int)+(i:Int):=by rw[IntKind.wrap_i64];omega
  have hai':ai<n:=by omega
  have hbi':bi<n:=by omega
  have S2:Aside (SWK enc k w0 blk off (swp dk ai bi) ((wr.drew.setCells blk (off+ai*k) (enc dk[bi]!)).setCells blk (off+bi*k) (enc dk[ai]!))):=S1.out.swapped R ai bi (by omega) (by omega)
  have la:=S1.out.ld1 R (by rw[HN.out];exact hds) P ai (by omega)
  have lb:=S1.out.ld1 R (by rw[HN.out];exact hds) P bi (by omega)
  have sa:=S1.out.st1 R (by rw[HN.out];exact hds) P ai (by omega) dk[bi]!
  have sb:=S1.out.st2 R (by rw[HN.out];exact hds) P ai bi (by omega) (by omega) dk[bi]! dk[ai]!
  have na:(enc dk[ai]!).length=k:=R.hk _;have nb:(enc dk[bi]!).length=k:=R.hk _
  generalize enc dk[ai]! =cI at S2 la sb na
  generalize enc dk[bi]! =cJ at S2 lb sa sb nb
  have HII:=ah hk
  clear S1 hxi hyi hxd hyd hxt hyt hd hl1 hl2 hsw HD him hai hbi hai' hbi' hk
  go_wp2_with fail
  go_big_region_o
  clear la lb sa sb
  generalize (wr.drew.setCells blk (off+ai*k) cJ).setCells blk (off+bi*k) cI=w2 at S2⊢
  go_wp2
  go_roundg kq
  case measure=>omega
  exact⟨i+1,swp dk ai bi,by simp,by have:=HII.out;omega,by rw[size_swp];exact hds,S2,HDN.out⟩
theorem rotate {k:Nat} (L:LayS P ρ k) (FG:Bd P ρ 252 Tryz.f252) (FR:Bd P ρ 220 Tryz.f220) {enc:α->List Value} {g:Nat} {cb:Array Value} {blk off cap a b m n:Nat} {d0 d:Array α} {w0 w:World} {p x y s:List α}
  (R:RowK enc k w0 blk off d0) (hn:d0.size=n) (hs:d.size=n) (S:SWK enc k w0 blk off d w) (hl:d.toList=p ++(x ++(y++s))) (ha:p.length=a) (hx:a+x.length=m) (hy:m+y.length=b) (hx0:x≠ []) (hy0:y≠ []) (hsz:n<4611686018427387904):
  Calls P (ρ.f 220) #[.slice (some ⟨blk,off,none⟩) n cap,.int .i64 a,.int .i64 m,.int .i64 b,.func (.func g) #[] cb] w fun e w'=>e=.returned (.tuple #[])/\ ∃d',d'.size=n/\SWK enc k w0 blk off d' w'/\d'.toList=p ++(y ++(x++s)):=by
 have mixed:=L.mixed;have t0:=L.t0;have a0:=L.a0;have z0:=L.z0;have v0:=L.v0;have t3:=L.t3;have a3:=L.a3;have z3:=L.z3;have v3:=L.v3;have t4:=L.t4;have a4:=L.a4;have z4:=L.z4;have v4:=L.v4;have t22:=L.t22;have a22:=L.a22;have z22:=L.z22;have v22:=L.v22;have t25:=L.t25;have a25:=L.a25;have z25:=L.z25;have v25:=L.v25;have aE:=L.aE;have zE:=L.zE
 have eF: ∀args w,(callFunc (ρ.f 252) args).run P w=.ok (.enter (ρ.f 252) args) w:=FG.enters rfl
 have hlen:=uo List.length hl;simp only[vH,rP]at hlen;have hbn:b<=n:=by omega
 have S0:Aside (SWK enc k w0 blk off d w):=S;obtain⟨T,hT⟩:=aj (p ++(y ++(x++s)))
 rw[hT];have hxl:0<x.length:=uS.2 hx0;have hyl:0<y.length:=uS.2 hy0
 have H0:=ah (show∃p' X Y s':List α,d.toList=p' ++(X ++(Y++s'))/\p' ++(Y ++(X++s'))=T/\p'.length+X.length=m/\X.length=m - a/\Y.length=b - m/\m+Y.length<=n from⟨p,x,y,s,hl,hT,by omega,by omega,by omega,by omega⟩)
 have h1:0<m - a:=by omega
 have h2:0<b - m:=by omega
 have ham:a<=m:=by omega
 have hmb:m<=b:=by omega
 have i1:(m:Int) -(a:Int)=((m - a:Nat):Int):=by omega
 have i2:(b:Int) -(m:Int)=((b - m:Nat):Int):=by omega
 obtain⟨u0,hu0⟩:=aj (m - a);obtain⟨v0',hv0⟩:=aj (b - m);rw[hu0]at H0 h1 i1
 rw[hv0]at H0 h2 i2;have HS:=ah hs;have HN:=ah hn
 clear S hl ha hx hy hx0 hy0 hlen hs hn hT hxl hyl;obtain⟨nm,tg,ps,rt,-,FX⟩:=FR
 simp only[Tryz.f220,vg,rnC,rnR,rnOp,rnE,rnO,tV,uT]at FX;go_enter FX,uO;go_wp2
 go_loopg [10,11] (u0+v0') (fun kx s10 s11 wr=> ∃(i j:Nat) (dk:Array α),s10=.int .i64 i/\s11=.int .i64 j/\0<i/\0<j/\i+j<=kx/\i<=m/\m+j<=n/\dk.size=n/\Aside (SWK enc k w0 blk off dk wr)/\Hid (∃p' X Y s':List α,dk.toList=p' ++(X ++(Y++s'))/\p' ++(Y ++(X++s'))=T/\p'.length+X.length=m/\X.length=i/\Y.length=j/\m+Y.length<=n))
 case atStart=>exact⟨u0,v0',d,rfl,rfl,h1,h2,rM _,by omega,by omega,HS.out,S0,H0⟩
 clear S0 H0 h1 h2 i1 i2;obtain⟨i,j,dk,rfl,rfl,hi0,hj0,hij,him,hjn,hds,S1,HD⟩:=hrel
 obtain⟨p',X,Y,s',hd,hT,hpx,hXl,hYl,-⟩:=HD;obtain⟨pi,hpi⟩:=aj (m - i)
 have hp':p'.length=pi:=by omega
 have i3:(m:Int) -(i:Int)=(pi:Int):=by omega
 have r3:IntKind.i64.wrap (pi:Int)=(pi:Int):=by rw[IntKind.wrap_i64];omega
 rcases zY i j with hlt|rfl|hlt
 ·obtain⟨ji,hji⟩:=aj (j - i)
  obtain⟨mj,hmj⟩:=aj (m+j - i)
  obtain⟨Y1,Y2,rfl,e1,e2⟩: ∃Y1 Y2,Y=Y1++Y2/\Y1.length=ji/\Y2.length=i:=⟨Y.take ji,Y.drop ji,(uz ji Y).symm,by rw[tK];omega,by rw[uJ];omega⟩
  have hsw:=swapRange L FG (g:=g) (cb:=cb) (cap:=cap) (a:=pi) (b:=mj) (m:=i) (p:=p') (x:=X) (q:=Y1) (y:=Y2) (s:=s') R HN.out hds S1.out (by rw[hd];simp) hp' hXl e2 (by omega) hsz
  have HSW:=ah hsw;have t1:((i:Int) !=(j:Int))=true:=by rw[tH];omega
  have t2:decide ((i:Int) >(j:Int))=false:=rO (by omega)
  have t3':(i:Int)<=(j:Int):=by omega
  have i4:(m:Int)+(j:Int) -(i:Int)=(mj:Int):=by omega
  have i5:(j:Int) -(i:Int)=(ji:Int):=by omega
  have b4:mj<4611686018427387904:=by omega
  have b5:ji<4611686018427387904:=by omega
  have r4:IntKind.i64.wrap ((m:Int)+(j:Int))=(m:Int)+(j:Int):=by rw[IntKind.wrap_i64];omega
  have HF:=ah (show(p'.length+Y2.length=m/\Y2.length=i/\Y1.length=ji/\m+Y1.length<=n)/\0<i/\0<ji/\i+ji<=gk - 1/\m+ji<=n/\1<=gk from⟨⟨by omega,e2,e1,by omega⟩,by omega,by omega,by omega,by omega,by omega⟩)
  have HT:=ah (show p' ++(Y1 ++(Y2 ++(X++s')))=T by rw[<-hT];simp)
  clear hsw hd hT hpx hXl hYl hpi hp' e1 e2 S1 hij hi0 hj0 hlt hji hmj hjn
  go_wp2_with fail;refine HSW.mono ?_;rintro e w2 ⟨rfl,d2,hd2,S2,hl2⟩
  have S3:Aside (SWK enc k w0 blk off d2 w2):=S2;have HL2:=ah hl2;clear S2 hl2;go_wp2
  go_roundg (gk - 1)
  case measure=>have:=HF.out;omega
  obtain⟨h1,h2,h3,h4,h5,-⟩:=HF.out
  exact⟨i,ji,d2,rfl,rfl,h2,h3,h4,him,h5,hd2,S3,⟨p',Y2,Y1,X++s',by rw[HL2.out],HT.out,h1⟩⟩
 ·have hsw:=swapRange L FG (g:=g) (cb:=cb) (cap:=cap) (a:=pi) (b:=m) (m:=i) (p:=p') (x:=X) (q:=[]) (y:=Y) (s:=s') R HN.out hds S1.out (by rw[hd];simp) hp' hXl hYl (by simp;omega) hsz
  rw[show p' ++(Y ++([] ++(X++s')))=T by rw[<-hT];simp]at hsw
  have HSW:=ah hsw;have t1:((i:Int) !=(i:Int))=false:=by rw[bne_self_eq_false]
  clear hsw hd hT hpx hXl hYl hpi hp' S1 hij hi0 hj0;go_wp2_with fail;refine HSW.mono ?_
  rintro e w2 ⟨rfl,d2,hd2,S2,hl2⟩;have S3:Aside (SWK enc k w0 blk off d2 w2):=S2
  have HL2:=ah hl2;clear S2 hl2;go_wp2
  go_end0
  exact⟨rfl,d2,hd2,S3.out,HL2.out⟩
 obtain⟨ij,hji⟩:=aj (i - j)
 obtain⟨X1,X2,rfl,e1,e2⟩: ∃X1 X2,X=X1++X2/\X1.length=j/\X2.length=ij:=⟨X.take j,X.drop j,(uz j X).symm,by rw[tK];omega,by rw[uJ];omega⟩
 have hsw:=swapRange L FG (g:=g) (cb:=cb) (cap:=cap) (a:=pi) (b:=m) (m:=j) (p:=p') (x:=X1) (q:=X2) (y:=Y) (s:=s') R HN.out hds S1.out (by rw[hd];simp) hp' e1 hYl (by omega) hsz
 have HSW:=ah hsw;have t1:((i:Int) !=(j:Int))=true:=by rw[tH];omega
 have t2:decide ((i:Int) >(j:Int))=true:=rQ (by omega)
 have t3':(j:Int)<(i:Int):=by omega
 have i5:(i:Int) -(j:Int)=(ij:Int):=by omega
 have b5:ij<4611686018427387904:=by omega
 rw[rP]at hpx
 have HF:=ah (show((p' ++ Y).length+X2.length=m/\X2.length=ij/\X1.length=j/\m+X1.length<=n)/\0<ij/\0<j/\ij+j<=gk - 1/\m+j<=n/\1<=gk/\ij<=m from⟨⟨by rw[rP];omega,e2,e1,by omega⟩,by omega,by omega,by omega,by omega,by omega,by omega⟩)
 have HT:=ah (show(p' ++ Y) ++(X1 ++(X2++s'))=T by rw[<-hT];simp)
 clear hsw hd hT hpx hXl hYl hpi hp' e1 e2 S1 hij hi0 hj0 hlt hji hjn;go_wp2_with fail
 refine HSW.mono ?_;rintro e w2 ⟨rfl,d2,hd2,S2,hl2⟩
 have S3:Aside (SWK enc k w0 blk off d2 w2):=S2;have HL2:=ah hl2;clear S2 hl2;go_wp2
 go_roundg (gk - 1)
 case measure=>have:=HF.out;omega
 obtain⟨h1,h2,h3,h4,h5,-,h6⟩:=HF.out
 exact⟨ij,j,d2,rfl,rfl,h2,h3,h4,h6,h5,hd2,S3,⟨p' ++ Y,X2,X1,s',by rw[HL2.out];simp,HT.out,h1⟩⟩
def ren (ρ:Ren):Ren:=⟨fun _=>ρ.f 174,fun t=>if t=0 then ρ.t 0 else if t=3 then ρ.t 3 else if t=4 then ρ.t 4 else if t=22 then ρ.t 22 else if t=24 then ρ.t 48 else ρ.t 136,fun g=>g⟩
theorem LayS.ins {k:Nat} (L:LayS P ρ k) (FI:Bears P (ρ.f 174) (SlBodyF.n20 (ren ρ))):SlLaysF0.n20 P (ren ρ):=
 ⟨L.mixed,FI,L.t0,L.a0,L.z0,L.v0,L.t3,L.a3,L.z3,L.v3,L.t4,L.a4,L.z4,L.v4,L.t22,L.a22,L.z22,L.v22,L.t25,L.a25,L.z25,L.v25⟩
theorem insertion {k:Nat} (L:LayS P ρ k) (FI:Bears P (ρ.f 174) (SlBodyF.n20 (ren ρ))) {le:α->α->Bool} (hT:Tot le) {enc:α->List Value} {cf:α->α->Int} (hcf: ∀x y,ltOf cf x y= !le y x) {g:Nat} {cb:Array Value} (eg: ∀args w,(callFunc g args).run P w=.ok (.enter g args) w)
  {blk off cap a b n:Nat} {d0 d:Array α} {w0 w:World} {p x s:List α} (hC:CmpLays P g cb enc k cf blk off n w0) (R:RowK enc k w0 blk off d0) (hn:d0.size=n) (hs:d.size=n) (S:SWK enc k w0 blk off d w) (hl:d.toList=p ++(x++s)) (ha:p.length=a) (hx:a+x.length=b) (hsz:n<4611686018427387904):
  Calls P (ρ.f 174) #[.slice (some ⟨blk,off,none⟩) n cap,.int .i64 a,.int .i64 b,.func (.func g) #[] cb] w fun e w'=>e=.returned (.tuple #[])/\ ∃d' x',d'.size=n/\SWK enc k w0 blk off d' w'/\d'.toList=p ++(x' ++ s)/\Srt le x'/\x'.Perm x:=by
 have hlen:=uo List.length hl;simp only[vH,rP]at hlen;obtain⟨q,os,hw⟩:=id S
 have hH:HoldsK enc k w blk off d:=S.holds R.hblk R.hH (hs.trans hn.symm)
 have hC':CmpLays P g cb enc k cf blk off d.size w:=fun m os' dk hd x y=>by
  obtain⟨m2,os2,e⟩:=S.on R.hblk m dk os' (by rw[hd])
  rw[e];exact hC m2 os2 dk (by omega) x y
 have h:=AnyQ.insertionSortCmpFunc (L.ins FI) k L.aE L.zE enc R.hk R.h1 cf g cb blk off cap a b d w eg hC' hH (S.lt R.hblk) (by omega) (by omega) (by omega)
 rw[hs]at h
 have hi:=insertionSort_holds (lt:=ltOf cf) (swo_of hT hcf) d a b (by omega) (by omega)
 refine h.mono ?_;rintro e w' ⟨rfl,m,os',rfl⟩
 obtain⟨x',h1,h2,h3⟩:=lists_of hi.1 hi.2 hcf hl ha hx
 exact⟨rfl,_,x',by rw[hi.1.1,hs],S.on R.hblk m _ os' hi.1.1,h1,h2,h3⟩
end Go.Proofs.YtanlehkalkafdaaGreatDoor.StbG
