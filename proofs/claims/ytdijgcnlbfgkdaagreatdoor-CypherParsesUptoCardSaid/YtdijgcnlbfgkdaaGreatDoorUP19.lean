/- Lemmas. -/
import Derived.Test.YtdijgcnlbfgkdaaGreatDoorUP18
set_option maxHeartbeats 64000000
set_option maxRecDepth 1000000
set_option linter.all false
namespace Go.Proofs.YtdijgcnlbfgkdaaGreatDoor.rC
open Go Go.Shelf Go.RowKit Go.Lib Go.Sort Go.Proofs Go.Proofs.YtdijgcnlbfgkdaaGreatDoor.ig Go.Proofs.Tryz
variable {P:Program} {ρ:Ren} {α:Type} [Inhabited α]
def stable {k:Nat} (L:vI P ρ k) (FG:Bd P ρ 237 f237) (FR:Bd P ρ 201 f201) (FS:Bd P ρ 158 f158)
  (FI:Bears P (ρ.f 157) (SlBodyF.n20 (ren ρ))) (FT:Bd P ρ 98 f98)
  {le:α->α->Bool} (hT:Tot le) {enc:α->List Value} {cf:α->α->Int} (hcf: ∀x y,ltOf cf x y= !le y x) {g:Nat} {cb:Array Value} (eg: ∀args w,(callFunc g args).run P w=.ok (.enter g args) w) {blk off cap n:Nat} {d0 d:Array α} {w0 w:World} (hC:CmpLays P g cb enc k cf blk off n w0) (R:RowK enc k w0 blk off d0) (hn:d0.size=n) (hs:d.size=n) (S:SWK enc k w0 blk off d w) (hsz:n<1152921504606846976):
  Calls P (ρ.f 98) #[.slice (some ⟨blk,off,none⟩) n cap,.int .i64 n,.func (.func g) #[] cb] w fun e w'=>e=.returned (.tuple #[])/\ ∃d',d'.size=n/\SWK enc k w0 blk off d' w'/\bJ le d'.toList/\d'.toList.Perm d.toList:=by
 have mixed:=L.mixed;have t0:=L.t0;have a0:=L.a0;have z0:=L.z0;have v0:=L.v0;have t3:=L.t3;have a3:=L.a3;have z3:=L.z3;have v3:=L.v3;have t4:=L.t4;have a4:=L.a4;have z4:=L.z4;have v4:=L.v4;have t22:=L.t22;have a22:=L.a22;have z22:=L.z22;have v22:=L.v22;have t25:=L.t25;have a25:=L.a25;have z25:=L.z25;have v25:=L.v25;have eI: ∀args w,(callFunc (ρ.f 157) args).run P w=.ok (.enter (ρ.f 157) args) w:=FI.enters rfl;have eS: ∀args w,(callFunc (ρ.f 158) args).run P w=.ok (.enter (ρ.f 158) args) w:=FS.enters rfl;have S0:Aside (SWK enc k w0 blk off d w):=S;have HC:Aside _:=hC;refine gq5 hcf hT hs hn eg fun uK y9 HS HN EG=>?_;clear hcf hT hs hn S hC;obtain⟨nm,tg,ps,rt,-,FX⟩:=FT;simp only[f98,afX,sF,Ey,DX,Ew,jX,agQ,ahr]at FX;go_enter FX,afQ;go_wp2
 go_loopg [7,8] n (fun kx s7 s8 wr=> ∃(qa qb:Nat) (dk:Array α) (dn rs:List α),s7=.int .i64 (qa:Int)/\s8=.int .i64 (qb:Int)/\qa<=n/\n - qa<=kx/\qb<=n+20/\dk.size=n/\Aside (SWK enc k w0 blk off dk wr)/\Hid (dk.toList=dn++rs/\dn.length=qa/\Ch le 20 dn/\(dn++rs).Perm d.toList/\qb=qa+20/\ ∃q,qa=q*20))
 case atStart=>exact⟨0,20,d,[],d.toList,rfl,rfl,by omega,by omega,by omega,HS.out,S0,⟨rfl,rfl,Ch.nil 20,.refl _,rfl,0,rfl⟩⟩
 clear S0;obtain⟨qa,qb,dk,dn,rs,rfl,rfl,hq,hk,JK,hds,S1,HD⟩:=hrel;have hd:_/\_/\_/\_/\_/\_:=HD;have hln:=afL List.length hd.1;rw[agR,hds,aeo,hd.2.1]at hln;by_cases hb:qb<=n
 ·have X0:(qb:Int)<=(n:Int):=by omega
  have aoM:qb=qa+20:=hd.2.2.2.2.1;obtain⟨X,rs',rfl,hX⟩: ∃X rs',rs=X++rs'/\X.length=20:=⟨rs.take 20,rs.drop 20,(afz 20 rs).symm,by rw[afo];omega⟩
  have hin:=insertion L FI y9.out uK.out (g:=g) (cb:=cb) EG.out (cap:=cap) (a:=qa) (b:=qb) HC.out R HN.out hds S1.out (p:=dn) (x:=X) (s:=rs') hd.1 hd.2.1 (by omega) (by omega)
  refine gq3 hin hd hX fun xu lD HX=>?_;have HK:=ah (show n - qb<=gk - 1/\1<=gk/\qb+20<=n+20 from⟨by omega,by omega,by omega⟩)
  clear hin hd HD hX hk hln S1 aoM;go_wp2_with fail;refine xu.mono ?_;rintro e w2 ⟨rfl,d2,X',h1,h2,h3,h4,h5⟩;have S2:Aside (SWK enc k w0 blk off d2 w2):=h2
  have H2:=ah (show d2.size=n/\d2.toList=(dn++X')++rs'/\(dn++X').length=qb/\Ch le 20 (dn++X')/\((dn++X')++rs').Perm d.toList/\ ∃q,qb=q*20 by
   obtain⟨-,g2,g3,g4,g5,q,g6⟩:=lD.out;have hl:=h5.length_eq;have hx:=HX.out;refine⟨h1,by rw[h3];simp,by rw[aeo];omega,g3.snoc (g2.trans g6) h4 (by omega), ?_,q+1,by omega⟩
   refine .trans ?_ g4;rw[afu]
   exact(h5.append_right rs').append_left dn)
  clear h1 h2 h3 h4 h5;go_wp2
  go_roundg (gk - 1)
  case measure=>have:=HK.out;omega
  exact⟨qb,qb+20,d2,dn++X',rs',rfl,by simp,hb,HK.out.1,HK.out.2.2,H2.out.1,S2,⟨H2.out.2.1,H2.out.2.2.1,H2.out.2.2.2.1,H2.out.2.2.2.2.1,rfl,H2.out.2.2.2.2.2⟩⟩
 have X0:(n:Int)<(qb:Int):=by omega
 have hin:=insertion L FI y9.out uK.out (g:=g) (cb:=cb) EG.out (cap:=cap) (a:=qa) (b:=n) HC.out R HN.out hds S1.out (p:=dn) (x:=rs) (s:=[]) (by rw[afy];exact hd.1) hd.2.1 (by omega) (by omega)
 have xu:=ah hin;have lD:=ah hd;have HQ:=ah (show rs.length<=20 by have:=hd.2.2.2.2.1;omega)
 clear hin hd HD hk hln S1;go_wp2_with fail;refine xu.mono ?_;rintro e w2 ⟨rfl,d2,X',h1,h2,h3,h4,h5⟩;have S2:Aside (SWK enc k w0 blk off d2 w2):=h2
 have H2:=ah (show d2.size=n/\Ch le 20 d2.toList/\d2.toList.Perm d.toList by
  obtain⟨-,g2,g3,g4,g5,q,g6⟩:=lD.out;rw[afy]at h3;rw[h3];have hl:=h5.length_eq;have hx:=HQ.out
  exact⟨h1,g3.snoc (g2.trans g6) h4 (by omega),.trans (h5.append_left dn) g4⟩)
 clear h1 h2 h3 h4 h5 lD xu;go_wp2_with fail
 go_loopg [6] n (fun kx s6 wr=> ∃(bs:Nat) (dk:Array α),s6=.int .i64 (bs:Int)/\0<bs/\bs<=2*n+20/\n - bs<=kx/\dk.size=n/\Aside (SWK enc k w0 blk off dk wr)/\Hid (Ch le bs dk.toList/\dk.toList.Perm d.toList))
 case atStart=>exact⟨20,d2,rfl,by omega,by omega,by omega,H2.out.1,S2,H2.out.2⟩
 clear S2 H2;obtain⟨bs,dk,rfl,hb0,hbm,hk,hds,S1,HD⟩:=hrel;obtain⟨gO,hgO⟩: ∃x,x=gk:=⟨_,rfl⟩;subst hgO;by_cases hbn:bs<n
 ·have X3:(bs:Int)<(n:Int):=by omega
  obtain⟨b2,hb2⟩:=aj (2*bs);have e2:(2:Int)*(bs:Int)=(b2:Int):=by omega
  have e3:(bs:Int)*2=(b2:Int):=by omega
  have b2b:b2<4611686018427387904:=by omega
  have HB2:=ah (show b2=2*bs/\n - b2<=gO - 1/\1<=gO/\b2<=2*n+20 from⟨by omega,by omega,by omega,by omega⟩)
  have S3:Aside (SWK enc k w0 blk off dk wr):=S1;have HDS:=ah hds
  have HDK:Hid (dk.toList=[]++dk.toList/\([]:List α).length=0/\Ch le b2 ([]:List α)/\Ch le bs dk.toList/\([]++dk.toList).Perm d.toList/\b2=0+b2/\ ∃q,0=q*b2):=by
   have hd:_/\_:=HD;exact⟨rfl,rfl,Ch.nil b2,hd.1,hd.2,(agO _).symm,0,by omega⟩
  clear hb2 HD S1 hk hds;go_wp2_with fail
  go_loopg [7,8] n (fun kx s7 s8 wv=> ∃(qa qb:Nat) (dk:Array α) (dn rs:List α),s7=.int .i64 (qa:Int)/\s8=.int .i64 (qb:Int)/\qa<=n/\n - qa<=kx/\qb<=4*n+40/\dk.size=n/\Aside (SWK enc k w0 blk off dk wv)/\Hid (dk.toList=dn++rs/\dn.length=qa/\Ch le b2 dn/\Ch le bs rs/\(dn++rs).Perm d.toList/\qb=qa+b2/\ ∃q,qa=q*b2))
  case atStart=>exact⟨0,b2,dk,[],dk.toList,rfl,rfl,by omega,by omega,by omega,HDS.out,S3,HDK⟩
  clear S3 HDS HDK;obtain⟨qa,qb,dk,dn,rs,rfl,rfl,hq,hk,JK,hds,S1,HD⟩:=hrel;have hd:_/\_/\_/\_/\_/\_/\_:=HD;have hln:=afL List.length hd.1;rw[agR,hds,aeo,hd.2.1]at hln;have X4:qb=qa+b2:=hd.2.2.2.2.2.1;obtain⟨qm,hqm⟩:=aj (qa+bs);have em:(qa:Int)+(bs:Int)=(qm:Int):=by omega
  have bm:qm<4611686018427387904:=by omega
  by_cases hb:qb<=n
  ·have X0:(qb:Int)<=(n:Int):=by omega
   obtain⟨X,rs',rfl,hX⟩: ∃X rs',rs=X++rs'/\X.length=bs:=⟨rs.take bs,rs.drop bs,(afz bs rs).symm,by rw[afo];have:=HB2.out;omega⟩
   obtain⟨Y,uU,rfl,hY⟩: ∃Y r2,rs'=Y++r2/\Y.length=bs:=⟨rs'.take bs,rs'.drop bs,(afz bs rs').symm,by rw[afo];have:=HB2.out;rw[aeo]at hln;omega⟩
   have hcx:Ch le bs (X ++(Y++uU)):=hd.2.2.2.1;have Np:bJ le X:=by have:=hcx.head;rwa [<-hX,aqn]at this
   have hcy:Ch le bs (Y++uU):=by have:=hcx.tail;rwa [show(X ++(Y++uU)).drop bs=Y++uU by rw[<-hX,aoK]]at this
   have Nq:bJ le Y:=by have:=hcy.head;rwa [<-hY,aqn]at this
   have hcr:Ch le bs uU:=by have:=hcy.tail;rwa [show(Y++uU).drop bs=uU by rw[<-hY,aoK]]at this
   have hsm:=symMerge L FG FR FS y9.out uK.out (g:=g) (cb:=cb) EG.out (cap:=cap) HC.out R HN.out (by omega) (qb - qa) qa qm qb dk wr dn X Y uU (aej _) hds S1.out hd.1 hd.2.1 (by omega) (by have:=HB2.out;omega) (afB.1 (by omega)) (afB.1 (by omega)) Np Nq
   have jT:=ah hsm;have lD:=ah hd;have X5:=ah (show X.length=bs/\Y.length=bs/\Ch le bs uU from⟨hX,hY,hcr⟩)
   have HK:=ah (show n - qb<=gk - 1/\1<=gk/\qb+b2<=4*n+40 from⟨by have:=HB2.out;omega,by have:=HB2.out;omega,by have:=HB2.out;omega⟩)
   have HQM:=ah hqm;obtain⟨q3,hq3⟩:=aj (qb+b2);have eqb:(qb:Int)+(b2:Int)=(q3:Int):=by omega
   have bqb:q3<4611686018427387904:=by omega
   have Az:=ah hq3;clear hsm hd HD hX hY hcx Np hcy Nq hcr hk hln S1 X4 hqm hq3;go_wp2_with fail;refine jT.mono ?_;rintro e w3 ⟨rfl,d3,C,h1,h2,h3,h4,h5⟩;have S4:Aside (SWK enc k w0 blk off d3 w3):=h2
   have H3:=ah (show d3.size=n/\d3.toList=(dn++C)++uU/\(dn++C).length=qb/\Ch le b2 (dn++C)/\Ch le bs uU/\((dn++C)++uU).Perm d.toList/\ ∃q,qb=q*b2 by
    obtain⟨-,g2,g3,-,g4,g5,q,g6⟩:=lD.out;have hl:=h5.length_eq;rw[aeo]at hl;have hx:=X5.out;have hb:=HB2.out.1;refine⟨h1,by rw[h3];simp,by rw[aeo];omega,g3.snoc (g2.trans g6) h4 (by omega),hx.2.2, ?_,q+1,by rw[an1];omega⟩
    refine .trans ?_ g4;rw[afu,<-afu X]
    exact(h5.append_right uU).append_left dn)
   clear h1 h2 h3 h4 h5;go_wp2
   go_roundg (gk - 1)
   case measure=>have:=HK.out;omega
   exact⟨qb,q3,d3,dn++C,uU,rfl,rfl,hb,HK.out.1,by rw[<-Az.out];exact HK.out.2.2,H3.out.1,S4,⟨H3.out.2.1,H3.out.2.2.1,H3.out.2.2.2.1,H3.out.2.2.2.2.1,H3.out.2.2.2.2.2.1,Az.symm,H3.out.2.2.2.2.2.2⟩⟩
  have X0:(n:Int)<(qb:Int):=by omega
  by_cases hm:qm<n
  ·have MG:(qm:Int)<(n:Int):=by omega
   obtain⟨X,Y,rfl,hX⟩: ∃X rs',rs=X++rs'/\X.length=bs:=⟨rs.take bs,rs.drop bs,(afz bs rs).symm,by rw[afo];have:=HB2.out;omega⟩
   rw[aeo]at hln;have hcx:Ch le bs (X++Y):=hd.2.2.2.1;have Np:bJ le X:=by have:=hcx.head;rwa [<-hX,aqn]at this
   have hcy:Ch le bs Y:=by have:=hcx.tail;rwa [show(X++Y).drop bs=Y by rw[<-hX,aoK]]at this
   have Nq:bJ le Y:=hcy.all (by have:=HB2.out;omega)
   have hsm:=symMerge L FG FR FS y9.out uK.out (g:=g) (cb:=cb) EG.out (cap:=cap) HC.out R HN.out (by omega) (n - qa) qa qm n dk wr dn X Y [] (aej _) hds S1.out (by rw[afy];exact hd.1) hd.2.1 (by omega) (by omega) (afB.1 (by omega)) (afB.1 (by omega)) Np Nq
   have jT:=ah hsm;have lD:=ah hd;have X5:=ah (show X.length+Y.length<=b2 by have:=HB2.out;omega)
   clear hsm hd HD hX hcx Np hcy Nq hk hln S1 X4 hqm hm;go_wp2_with fail;refine jT.mono ?_;rintro e w3 ⟨rfl,d3,C,h1,h2,h3,h4,h5⟩;have S4:Aside (SWK enc k w0 blk off d3 w3):=h2
   have H3:=ah (show d3.size=n/\Ch le b2 d3.toList/\d3.toList.Perm d.toList by
    obtain⟨-,g2,g3,-,g4,g5,q,g6⟩:=lD.out;have hl:=h5.length_eq;rw[aeo]at hl;rw[afy]at h3;rw[h3]
    exact⟨h1,g3.snoc (g2.trans g6) h4 (by rw[hl];exact X5.out),.trans (h5.append_left dn) g4⟩)
   clear h1 h2 h3 h4 h5;go_wp2
   go_roundg (gO - 1)
   case measure=>have:=HB2.out;omega
   exact⟨b2,d3,rfl,by have:=HB2.out;omega,HB2.out.2.2.2,HB2.out.2.1,H3.out.1,S4,H3.out.2⟩
  have MG:(n:Int)<=(qm:Int):=by omega
  have hsr:bJ le rs:=hd.2.2.2.1.all (by omega)
  have H3:=ah (show dk.size=n/\Ch le b2 dk.toList/\dk.toList.Perm d.toList by
   obtain⟨g1,g2,g3,-,g4,g5,q,g6⟩:=hd;rw[g1]
   exact⟨hds,g3.snoc (g2.trans g6) hsr (by have:=HB2.out;omega),g4⟩)
  have S4:Aside (SWK enc k w0 blk off dk wr):=S1;clear hd HD hsr hk hln S1 X4 hqm hm;go_wp2
  go_roundg (gO - 1)
  case measure=>have:=HB2.out;omega
  exact⟨b2,dk,rfl,by have:=HB2.out;omega,HB2.out.2.2.2,HB2.out.2.1,H3.out.1,S4,H3.out.2⟩
 have X3:(n:Int)<=(bs:Int):=by omega
 have hd:_/\_:=HD;have H3:=ah (show bJ le dk.toList/\dk.toList.Perm d.toList from⟨hd.1.all (by rw[agR];omega),hd.2⟩)
 clear hd HD;go_wp2
 go_end0
 exact⟨rfl,dk,hds,S1.out,H3.out⟩
def Vl {k:Nat} (L:vI P ρ k) (FG:Bd P ρ 237 f237) (FR:Bd P ρ 201 f201) (FS:Bd P ρ 158 f158)
  (FI:Bears P (ρ.f 157) (SlBodyF.n20 (ren ρ))) (FT:Bd P ρ 98 f98) (FW:Bd P ρ 47 f47)
  {le:α->α->Bool} (hT:Tot le) {enc:α->List Value} {cf:α->α->Int} (hcf: ∀x y,ltOf cf x y= !le y x) {g:Nat} {cb:Array Value} (eg: ∀args w,(callFunc g args).run P w=.ok (.enter g args) w) {blk off cap n:Nat} {d:Array α} {w:World} (hC:CmpLays P g cb enc k cf blk off n w) (R:RowK enc k w blk off d) (hn:d.size=n) (hsz:n<1152921504606846976):
  Calls P (ρ.f 47) #[.slice (some ⟨blk,off,none⟩) n cap,.func (.func g) #[] cb] w fun e w'=>e=.returned (.tuple #[])/\ ∃d',d'.size=n/\SWK enc k w blk off d' w'/\bJ le d'.toList/\d'.toList.Perm d.toList:=by
 have mixed:=L.mixed;have t0:=L.t0;have a0:=L.a0;have z0:=L.z0;have v0:=L.v0;have t3:=L.t3;have a3:=L.a3;have z3:=L.z3;have v3:=L.v3;have t22:=L.t22;have a22:=L.a22;have z22:=L.z22;have v22:=L.v22;have t25:=L.t25;have a25:=L.a25;have z25:=L.z25;have v25:=L.v25;have eT: ∀args w,(callFunc (ρ.f 98) args).run P w=.ok (.enter (ρ.f 98) args) w:=FT.enters rfl;have HT:=ah (stable L FG FR FS FI FT hT hcf (cap:=cap) eg hC R hn hn (SWK.start R.hH) hsz);clear hT hcf eg hC hn R;obtain⟨nm,tg,ps,rt,-,FX⟩:=FW;simp only[f47,afX,sF,Ey,DX,Ew,jX,agQ,ahr]at FX;go_enter FX,afQ;go_wp2_with fail;refine HT.mono ?_;rintro e w' ⟨rfl,d',h1,h2,h3,h4⟩;have H:=ah (And.intro h1 (And.intro h2 (And.intro h3 h4)));clear h1 h2 h3 h4;go_wp2
 go_end0
 exact⟨rfl,d',H.out⟩
def akx (L:SlLaysF0.n20 P ρ) (p:Option Addr) (cap:Nat) (fv:Value) (w:World):Calls P (ρ.f 20) #[.slice p 0 cap,.int .i64 0,.int .i64 0,fv] w fun e w'=>e=.returned (.tuple #[])/\w'=w:=by
 have mixed:=L.mixed;have t0:=L.t0;have a0:=L.a0;have z0:=L.z0;have v0:=L.v0;have t3:=L.t3;have a3:=L.a3;have z3:=L.z3;have v3:=L.v3;have t4:=L.t4;have a4:=L.a4;have z4:=L.z4;have v4:=L.v4;have t22:=L.t22;have a22:=L.a22;have z22:=L.z22;have v22:=L.v22;have t25:=L.t25;have a25:=L.a25;have z25:=L.z25;have v25:=L.v25;obtain⟨_,_,FG⟩:=L.f20;go_enter FG,SlBodyF.n20_ntmps ρ;go_wp2;refine atg 1 ?_;rw[as8];go_wp2
 go_end0
 exact⟨rfl,rfl⟩
def aky {k:Nat} (L:vI P ρ k) (FI:Bears P (ρ.f 157) (SlBodyF.n20 (ren ρ))) (FT:Bd P ρ 98 f98) (p:Option Addr) (cap:Nat) (fv:Value) (w:World):
  Calls P (ρ.f 98) #[.slice p 0 cap,.int .i64 0,fv] w fun e w'=>e=.returned (.tuple #[])/\w'=w:=by
 have mixed:=L.mixed;have t0:=L.t0;have a0:=L.a0;have z0:=L.z0;have v0:=L.v0;have t3:=L.t3;have a3:=L.a3;have z3:=L.z3;have v3:=L.v3;have t4:=L.t4;have a4:=L.a4;have z4:=L.z4;have v4:=L.v4;have t22:=L.t22;have a22:=L.a22;have z22:=L.z22;have v22:=L.v22;have t25:=L.t25;have a25:=L.a25;have z25:=L.z25;have v25:=L.v25;have eI: ∀args w,(callFunc (ρ.f 157) args).run P w=.ok (.enter (ρ.f 157) args) w:=FI.enters rfl;have hi:=fun W=>akx (L.ins FI) p cap fv W
 have HI:=ah hi;clear hi;obtain⟨nm,tg,ps,rt,-,FX⟩:=FT;simp only[f98,afX,sF,Ey,DX,Ew,jX,agQ,ahr]at FX;go_enter FX,afQ;go_wp2;refine atg 1 ?_;rw[as8];go_wp2_with fail;refine(HI.out _).mono ?_;rintro e w' ⟨rfl,rfl⟩;go_wp2;refine atg 1 ?_;rw[as8];go_wp2
 go_end0
 exact⟨rfl,rfl⟩
def Vm {k:Nat} (L:vI P ρ k) (FI:Bears P (ρ.f 157) (SlBodyF.n20 (ren ρ))) (FT:Bd P ρ 98 f98) (FW:Bd P ρ 47 f47) (p:Option Addr) (cap:Nat) (fv:Value) (w:World):
  Calls P (ρ.f 47) #[.slice p 0 cap,fv] w fun e w'=>e=.returned (.tuple #[])/\w'=w:=by
 have mixed:=L.mixed;have t0:=L.t0;have a0:=L.a0;have z0:=L.z0;have v0:=L.v0;have t3:=L.t3;have a3:=L.a3;have z3:=L.z3;have v3:=L.v3;have t4:=L.t4;have a4:=L.a4;have z4:=L.z4;have v4:=L.v4;have t22:=L.t22;have a22:=L.a22;have z22:=L.z22;have v22:=L.v22;have t25:=L.t25;have a25:=L.a25;have z25:=L.z25;have v25:=L.v25;have eT: ∀args w,(callFunc (ρ.f 98) args).run P w=.ok (.enter (ρ.f 98) args) w:=FT.enters rfl;have HT:=ah (fun W=>aky L FI FT p cap fv W)
 obtain⟨nm,tg,ps,rt,-,FX⟩:=FW;simp only[f47,afX,sF,Ey,DX,Ew,jX,agQ,ahr]at FX;go_enter FX,afQ;go_wp2_with fail;refine(HT.out _).mono ?_;rintro e w' ⟨rfl,rfl⟩;go_wp2
 go_end0
 exact⟨rfl,rfl⟩
end Go.Proofs.YtdijgcnlbfgkdaaGreatDoor.rC
namespace Go.Proofs.YtdijgcnlbfgkdaaGreatDoor
open Go.RowKit Go.Sort Go.Proofs.YtdijgcnlbfgkdaaGreatDoor.ig Go.Proofs.Tryz
def KT {α:Type} {f:α->List Value} {k:Nat}: ∀{l:List α},(∀x∈l,(f x).length=k)->(l.flatMap f).length=l.length*k
 |[],_=>by simp
 |a :: r,h=>by rw[agF,aeo,h a (by simp),KT (fun x hx=>h x (by simp[hx])),ae7,an1,an8]
def flat_get {α:Type} {f:α->List Value} {k:Nat}: ∀{l:List α} {i:Nat} {a:α},(∀x∈l,(f x).length=k)->l[i]?=some a-> ∀j,j<k->(l.flatMap f)[i*k+j]?=(f a)[j]?
 |[],i,a,_,h,_,_=>by simp at h
 |x :: r,0,a,hf,h,j,hj=>by
  simp only[aev,afs]at h;subst h;rw[agF,aop,agO,anD (by rw[hf x (by simp)];exact hj)]
 |x :: r,i+1,a,hf,h,j,hj=>by
  have hx:=hf x (by simp)
  rw[agF,ag1 (by rw[hx,an1];omega),hx,show(i+1)*k+j - k=i*k+j by rw[an1];omega]
  exact flat_get (fun y hy=>hf y (by simp[hy])) (by simpa using h) j hj
def akz {β:Type} {l1 l2:List (β×List Value)} {x:β} {cs:List Value} {k j:Nat} (h: ∀y∈l1,y.2.length=k) (hj:j<cs.length) (u:Value):
  ((l1 ++(x,cs) :: l2).flatMap Prod.snd).set (l1.length*k+j) u=(l1 ++(x,cs.set j u) :: l2).flatMap Prod.snd:=by
 have hl:=KT (f:=Prod.snd) h;rw[afR,afR,agF,agF,List.set_append,aer (by omega),hl,apu,List.set_append,aeu (by exact hj)]
def yh {w:World} {B e k n c t:Nat} {A:Option Addr} {xs:List Value} (h:w.ownsRow B e k (.slice A n c) n xs) (ht:t<n*k):
  ∃g,A=some ⟨g,0,none⟩/\B<=g/\w.cell? ⟨g,t,none⟩=xs[t]?/\w.frozen? ⟨g,t,none⟩=false/\ ∀u,(w.setCell ⟨g,t,none⟩ u).ownsRow B e k (.slice A n c) n (xs.set t u):=by
 rcases h.2 with⟨_,hn⟩|⟨g,cap,cur,he,hg,hc,h1,h2,h3,h4⟩
 ·subst hn;simp at ht
 injection he with e1 e2 e3
 subst e1 e3;have hb:ak w g e cur:=hc;refine⟨g,rfl,hg,by rw[hb.cell,<-h4,ape ht,an4],hb.frozen t,fun u=>⟨by rw[arO];exact h.1,.inr ⟨g,c,_,rfl,hg,hb.aG t u,h1,h2,by simpa using h3, ?_⟩⟩⟩
 rw[aqm,List.take_set,h4]
def acu {α:Type} [Inhabited α] {enc:α->Value} {d:Array α} {w:World} {B e k n c g m:Nat} {xs:List Value} {os:Array Obj} (ho:w.ownsRow B e k (.slice (some ⟨g,0,none⟩) n c) n xs) (hs:d.size=n*k):
  (grow (putRow enc (Sort.ahead w m) g 0 d) os).ownsRow B e k (.slice (some ⟨g,0,none⟩) n c) n (d.toList.map enc)/\w.grownBy (grow (putRow enc (Sort.ahead w m) g 0 d) os) (some g):=by
 rcases ho.2 with⟨he,_⟩|⟨g',cap,cur,he,hg,hc,h1,h2,h3,h4⟩
 ·cases he
 injection he with e1 e2 e3
 injection e1 with e1
 injection e1 with e1
 subst e1 e3;have hlt:g<w.heap.size:=(afb.1 hc).1;have hle:n*k<=cur.size:=by rw[h3];exact ahg k h1
 refine⟨⟨by simp[hs],.inr ⟨g,c,putCells enc 0 d cur,rfl,hg, ?_,h1,h2,by simp[putCells,h3], ?_⟩⟩,⟨rfl,rfl,rfl,by simp[putRow,mapBlock,Sort.ahead],fun q hq hne=> ?_⟩⟩
 ·rw[heap_grow_old _ _ (by simpa[putRow,mapBlock,Sort.ahead] using hlt)]
  simp[putRow,mapBlock,Sort.ahead,apW,hc,onCells]
 ·apply apL
  intro t;by_cases ht:t<n*k
  ·rw[ape ht,an4,aeY,an4]
   have hd:t<d.size:=by omega
   have hcur:t<cur.size:=by omega
   simp[putCells,hd,hcur]
  rw[ag2 (by simp;omega),ag2 (by simp;omega)]
 rw[heap_grow_old _ _ (by simpa[putRow,mapBlock,Sort.ahead] using hq)]
 have hne':g≠q:=fun e=>hne (by rw[e])
 simp[putRow,mapBlock,Sort.ahead,apW,hne']
def acv {α:Type} [Inhabited α] (enc:α->List Value) (k:Nat) (hk: ∀x,(enc x).length=k) (d:Array α):(flatK enc k d).toList=d.toList.flatMap enc:=by
 apply apL
 intro t;have hl:(d.toList.flatMap enc).length=d.size*k:=by rw[KT (fun x _=>hk x),agR]
 by_cases ht:t<d.size*k
 ·have k0:0<k:=by
   rcases afY k with h|h
   ·subst h;simp at ht
   exact h
  have hi:t / k<d.size:=aqa (by rw[ahe];exact ht)
  have hj:t % k<k:=arS _ k0;have e:t=t / k*k+t % k:=by have:=Nat.div_add_mod t k;rw[ahe]at this;omega
  have h2:=flat_get (l:=d.toList) (f:=enc) (i:=t / k) (fun x _=>hk x) (by rw[an4,anE hi]) (t % k) hj
  rw[<-e]at h2;rw[h2,an4];simp only[flatK,Array.getElem?_map,Array.getElem?_range,ht,anN,afX];rw[aob d (t / k) hi,aob (enc d[t / k]) (t % k) (by rw[hk];exact hj),aen (by rw[hk];exact hj)]
 rw[ag2 (by simp;omega),ag2 (by omega)]
def Vo {α:Type} [Inhabited α] {enc:α->List Value} {k:Nat} (hk: ∀x,(enc x).length=k) (h1: ∀x,∀v∈enc x,v.oneCell'=true) {d:Array α} {w:World} {B e n c g:Nat} (ho:w.ownsRow B e k (.slice (some ⟨g,0,none⟩) n c) n (d.toList.flatMap enc)) (hn:d.size=n):RowK enc k w g 0 d:=by
 have hlt:g<w.heap.size:=(ar5 ho g rfl).2;refine⟨hk,h1,fun j hj=> ?_,hlt⟩
 rw[size_flatK,hn]at hj;obtain⟨g',he,-,hc,hf,-⟩:=yh ho hj
 injection he with he
 injection he with he
 subst he;rw[agO];refine⟨?_,hf⟩;rw[hc,<-acv enc k hk d,an4,anE (by rw[size_flatK,hn];exact hj),aob _ j (by rw[size_flatK,hn];exact hj)]
 rfl
def Vp {α:Type} [Inhabited α] {enc:α->List Value} {k:Nat} (hk: ∀x,(enc x).length=k) {d':Array α} {w W:World} {B e n c g:Nat} {xs:List Value} (ho:w.ownsRow B e k (.slice (some ⟨g,0,none⟩) n c) n xs) (hn:d'.size=n) (S:SWK enc k w g 0 d' W):
  W.ownsRow B e k (.slice (some ⟨g,0,none⟩) n c) n (d'.toList.flatMap enc)/\w.grownBy W (some g):=by
 obtain⟨m,os,rfl⟩:=S;have h:=acu (enc:=id) (d:=flatK enc k d') (m:=m) (os:=os) ho (by rw[size_flatK,hn])
 rw[List.map_id,acv enc k hk]at h;exact h
def akA {α β:Type} {f:α->β} {a b:List β} (h:a.Perm b): ∀l:List α,l.map f=a-> ∃l':List α,l'.Perm l/\l'.map f=b:=by
 induction h with
 |nil=>intro l hl;exact⟨l,.refl _,hl⟩
 |cons x _ ih=>
  intro l hl;obtain⟨y,r,rfl,rfl,rfl⟩:=aqb.1 hl;obtain⟨r',h1,h2⟩:=ih r rfl;exact⟨y :: r',h1.cons y,by rw[agQ,h2]⟩
 |swap x y r=>
  intro l hl;obtain⟨u,l1,rfl,rfl,h1⟩:=aqb.1 hl;obtain⟨v,l2,rfl,rfl,rfl⟩:=aqb.1 h1;exact⟨v :: u :: l2,.swap _ _ _,rfl⟩
 |trans _ _ ih1 ih2=>
  intro l hl;obtain⟨l1,h1,h2⟩:=ih1 l hl;obtain⟨l2,h3,h4⟩:=ih2 l1 h2;exact⟨l2,h3.trans h1,h4⟩
structure Key {κ:Type} (le:κ->κ->Bool):Prop where
 trans: ∀a b c,le a b=true->le b c=true->le a c=true
 total: ∀a b,(le a b || le b a)=true
 anti: ∀a b,le a b=true->le b a=true->a=b
def KU:Key (fun a b:Int=>decide (a<=b)):=⟨fun a b c=>by simp only[aeU];omega,fun a b=>by simp only[anO,aeU];omega,fun a b=>by simp only[aeU];omega⟩
def FY:Key (fun a b:List UInt8=>decide (a<=b)):=⟨fun a b c=>by simp only[aeU];exact arR,fun a b=>by simp only[anO,aeU];exact List.le_total a b,fun a b=>by simp only[aeU];exact List.le_antisymm⟩
def Vq {α κ:Type} {le:κ->κ->Bool} (K:Key le) {key:α->κ} {l l':List α} (hd:(l.map key).Nodup) (hp:l'.Perm l) (hs:(l'.map key).Pairwise (fun a b=>le a b=true)):l'=Gr.mY le key l:=by
 have ht:=arH (le:=fun a b=>le (key a) (key b)) (fun a b c=>K.trans _ _ _) (fun a b=>K.total _ _) l
 refine(hp.trans (ag8 l _).symm).eq_of_pairwise (le:=fun a b=>le (key a) (key b)=true) (fun x y hx hy h1 h2=> ?_) (apG.1 hs) ht
 have hx:=hp.mem_iff.1 hx;have hy:=(ag8 l _).mem_iff.1 hy;have e:=K.anti _ _ h1 h2;obtain⟨i,hi,rfl⟩:=agM hx;obtain⟨j,hj,rfl⟩:=agM hy
 have hij:i=j:=by
  have:=List.getElem_inj (h₀:=by simpa using hi) (h₁:=by simpa using hj) hd (i:=i) (j:=j)
  simp only[List.getElem_map]at this;exact this.1 e
 subst hij;rfl
def Vr {β κ α:Type} {le:κ->κ->Bool} (K:Key le) {enc:α->List Value} {ka:α->κ} {kb:β->κ} {l:List (β×List Value)} {q:List ((β×List Value)×α)} (hq1:q.map Prod.fst=l) (hq2: ∀y∈q,enc y.2=y.1.2/\ka y.2=kb y.1.1)
  {d':List α} (hp:d'.Perm (q.map Prod.snd)) (hs:d'.Pairwise (fun a b=>le (ka a) (ka b)=true)) (hd:((l.map Prod.fst).map kb).Nodup): ∃l':List (β×List Value),l'.Perm l/\d'.flatMap enc=l'.flatMap Prod.snd/\l'.map Prod.fst=Gr.mY le kb (l.map Prod.fst):=by
 obtain⟨q',h1,h2⟩:=akA hp.symm q rfl;have hm: ∀y∈q',enc y.2=y.1.2/\ka y.2=kb y.1.1:=fun y hy=>hq2 y (h1.mem_iff.1 hy)
 have h3:(q'.map Prod.fst).Perm l:=hq1▸h1.map Prod.fst;refine⟨q'.map Prod.fst,h3, ?_,Vq K hd (h3.map _) ?_⟩
 ·rw[<-h2,List.flatMap_map,List.flatMap_map]
  clear h1 h2 h3
  induction q' with
  |nil=>rfl
  |cons y r ih=>rw[agF,agF,(hm y (by simp)).1,ih (fun z hz=>hm z (by simp[hz]))]
 have e:((q'.map Prod.fst).map Prod.fst).map kb=d'.map ka:=by
  rw[<-h2,ahs,ahs,ahs];exact List.map_congr_left fun y hy=>(hm y hy).2.symm
 rw[e];exact apG.2 hs
def Qq {β α κ:Type} {enc:α->List Value} {ka:α->κ} {kb:β->κ}: ∀{l:List (β×List Value)},(∀x∈l,∃e,enc e=x.2/\ka e=kb x.1)-> ∃q:List ((β×List Value)×α),q.map Prod.fst=l/\ ∀y∈q,enc y.2=y.1.2/\ka y.2=kb y.1.1
 |[],_=>⟨[],rfl,by simp⟩
 |x :: r,h=>by
  obtain⟨e,h1⟩:=h x (by simp)
  obtain⟨q,h2,h3⟩:=Qq (l:=r) (fun y hy=>h y (ahj _ hy))
  exact⟨(x,e) :: q,by rw[agQ,h2],fun y hy=>(aga.1 hy).elim (fun e=>e▸h1) (h3 y)⟩
def Qr {β α:Type} {enc:α->List Value}: ∀{q:List ((β×List Value)×α)},(∀y∈q,enc y.2=y.1.2)->(q.map Prod.snd).flatMap enc=(q.map Prod.fst).flatMap Prod.snd
 |[],_=>rfl
 |y :: r,h=>by rw[agQ,agQ,agF,agF,h y (by simp),Qr (fun z hz=>h z (by simp[hz]))]
def dD.pairs {α:Type} {W:World} {B size:Nat} {R:α->List Value->Prop} {A:Option Addr} {l:List α} (h:dD W B size R A l): ∃lp:List (α×List Value),lp.map Prod.fst=l/\(∀x∈lp,R x.1 x.2/\x.2.length=size)/\Reads W B size A l.length (lp.flatMap Prod.snd):=by
 have key: ∀(m:List α) (i:Nat),(∀(j:Nat) (a:α),m[j]?=some a->l[i+j]?=some a)-> ∃lp:List (α×List Value),lp.map Prod.fst=m/\(∀x∈lp,R x.1 x.2/\x.2.length=size)/\
   ∀(j:Nat) (x:α×List Value),lp[j]?=some x-> ∃b off,A=some ⟨b,off,none⟩/\b<B/\ ∀(t:Nat) u,x.2[t]?=some u->W.cell? ⟨b,off+(i+j)*size+t,none⟩=some u:=by
  intro m
  induction m with
  |nil=>exact fun i _=>⟨[],rfl,by simp,by simp⟩
  |cons a r ih=>
   intro i hi;obtain⟨b,off,cs,e,hlt,hr,hl,hc⟩:=h i a (by have:=hi 0 a rfl;simpa using this)
   obtain⟨lp,h1,h2,h3⟩:=ih (i+1) (fun j b hj=>by have:=hi (j+1) b (by simpa using hj);rwa [show i+1+j=i+(j+1) by omega])
   refine⟨(a,cs) :: lp,by rw[agQ,h1],fun x hx=>(aga.1 hx).elim (fun e=>by rw[e];exact⟨hr,hl⟩) (h2 x),fun j x hj=> ?_⟩
   cases j with
   |zero=>
    simp only[aev,afs]at hj;subst hj;exact⟨b,off,e,hlt,fun t u hu=>hc t u hu⟩
   |succ j=>
    obtain⟨b',off',e',hlt',hc'⟩:=h3 j x (by simpa using hj)
    exact⟨b',off',e',hlt',fun t u hu=>by have:=hc' t u hu;rwa [show i+1+j=i+(j+1) by omega]at this⟩
 obtain⟨lp,h1,h2,h3⟩:=key l 0 (fun j a hj=>by simpa using hj)
 have hll:lp.length=l.length:=by rw[<-h1,aeP]
 have hfl:=KT (f:=Prod.snd) (l:=lp) (k:=size) (fun x hx=>(h2 x hx).2)
 refine⟨lp,h1,h2,by rw[hfl,hll],fun hp=> ?_⟩
 obtain⟨x0,hx0⟩: ∃x,lp[0]?=some x:=⟨_,aen (by omega)⟩
 obtain⟨b,off,e,hlt,-⟩:=h3 0 x0 hx0;refine⟨b,off,e,hlt,fun t u hu=> ?_⟩
 rcases afY size with h0|h0
 ·subst h0
  rw[ag2 (by omega)]at hu
  cases hu
 have ht:t<lp.length*size:=by rw[<-hfl];exact(aeK.1 hu).1
 have hi:t / size<lp.length:=aqa (by rw[ahe];exact ht)
 have et:t=t / size*size+t % size:=by have:=Nat.div_add_mod t size;rw[ahe]at this;omega
 have h5:=flat_get (f:=Prod.snd) (l:=lp) (k:=size) (fun x hx=>(h2 x hx).2) (aen hi) (t % size) (arS _ h0)
 rw[<-et,hu]at h5;obtain⟨b',off',e',-,hc'⟩:=h3 _ _ (aen hi);rw[e]at e';cases e';have:=hc' _ _ h5.symm;rw[agO,anL,<-et]at this;exact this
end Go.Proofs.YtdijgcnlbfgkdaaGreatDoor
namespace Go.Proofs.YtdijgcnlbfgkdaaGreatDoor
open Go.RowKit Go.Sort Go.Proofs.Tryz
abbrev Sl:=Option Addr×Nat×Nat
def EC (s:Sl):Value:=.slice s.1 s.2.1 s.2.2
abbrev EN:=Int×Sl×Sl
def zZ (x:EN):List Value:=[.int .i64 x.1,EC x.2.1,EC x.2.2]
def DY:Go.Shelf.Ren:=⟨fun n=>n,fun t=>t,fun g=>g⟩
def acw:rC.vI prog DY 3:=by
 constructor<;>first|kernel_rfl|(intro w;kernel_rfl)
def fN0:ig.Bd prog DY 237 f237:=⟨f237.name,f237.targs,f237.params,f237.resultTypes,by decide,func237.trans (by kernel_rfl)⟩
def fN1:ig.Bd prog DY 201 f201:=⟨f201.name,f201.targs,f201.params,f201.resultTypes,by decide,func201.trans (by kernel_rfl)⟩
def fN2:ig.Bd prog DY 158 f158:=⟨f158.name,f158.targs,f158.params,f158.resultTypes,by decide,func158.trans (by kernel_rfl)⟩
def fN3:Bears prog (DY.f 157) (SlBodyF.n20 (rC.ren DY)):=⟨f157.name,by decide,func157.trans (by kernel_rfl)⟩
def fN4:ig.Bd prog DY 98 f98:=⟨f98.name,f98.targs,f98.params,f98.resultTypes,by decide,func98.trans (by kernel_rfl)⟩
def fN5:ig.Bd prog DY 47 f47:=⟨f47.name,f47.targs,f47.params,f47.resultTypes,by decide,func47.trans (by kernel_rfl)⟩
def akB (x y:EN) (W:World):Calls prog 48 (#[.agg (zZ x).toArray,.agg (zZ y).toArray]++#[]) W fun e w'=>e=.returned (.int .i64 (Lib.compareInt x.1 y.1))/\ ∃q os',w'=grow (W.drewN q) os':=by
 obtain⟨xi,⟨xa,xn,xc⟩,ya,yn,yc⟩:=x;obtain⟨yi,⟨za,zn,zc⟩,va,vn,vc⟩:=y;simp only[zZ,EC,aon,afy,anr,agJ];have hc:=fun V=>Tryz.cmp_Compare_int xi yi V
 have HC:=ah hc;clear hc;go_enter func48,ntmps48;go_wp2_with fail;refine(HC.out _).mono ?_;rintro e w' ⟨rfl,rfl⟩;go_wp2;go_ret;exact⟨rfl,0,#[_,_],by rw[atb,atb,grow_grow];rfl⟩
def leI {α:Type} (x y:Int×α):Bool:=decide (x.1<=y.1)
def acy {α:Type}:ig.Tot (leI (α:=α)):=⟨fun h1 h2=>by unfold leI at*;simp only[aeU] at*;omega,fun h=>by unfold leI at*;simp only[aeU,anW] at*;omega⟩
def cfI {α:Type} (x y:Int×α):ltOf (fun x y:Int×α=>Lib.compareInt x.1 y.1) x y= !leI y x:=by
 unfold ltOf leI Lib.compareInt
 rcases Int.lt_trichotomy x.1 y.1 with h|h|h
 ·have h2: ¬y.1<=x.1:=by omega
  simp[h]
 ·simp[h]
 have h2: ¬x.1<y.1:=by omega
 have h3:y.1<=x.1:=by omega
 simp[h,h2,h3]
def akC {g cap n:Nat} {d:Array EN} {w:World} (R:RowK zZ 3 w g 0 d) (hn:d.size=n) (hsz:n<=1073741824):
  Calls prog 47 #[.slice (some ⟨g,0,none⟩) n cap,.func (.func 48) #[] #[]] w fun e w'=>e=.returned (.tuple #[])/\ ∃d',d'.size=n/\SWK zZ 3 w g 0 d' w'/\ig.bJ leI d'.toList/\d'.toList.Perm d.toList:=
 rC.Vl acw fN0 fN1 fN2 fN3 fN4 fN5 acy cfI (atd func48 (by kernel_rfl) rfl) (fun m os dk _ x y=>akB x y _) R hn (by omega)
def akD (p:Option Addr) (cap:Nat) (fv:Value) (w:World):Calls prog 47 #[.slice p 0 cap,fv] w fun e w'=>e=.returned (.tuple #[])/\w'=w:=rC.Vm acw fN3 fN4 fN5 p cap fv w
abbrev ER:=Int×List UInt8×Int×Int×Sl
def encR (x:ER):List Value:=[.int .i64 x.1,ST x.2.1,.int .i64 x.2.2.1,.int .i64 x.2.2.2.1,EC x.2.2.2.2]
def DZ:Go.Shelf.Ren:=⟨fun n=>if n=237 then 238 else if n=201 then 202 else if n=158 then 160 else if n=157 then 159 else if n=98 then 100 else if n=47 then 50 else n,fun t=>if t=37 then 74 else if t=23 then 24 else if t=119 then 121 else t,fun g=>g⟩
def acz:rC.vI prog DZ 5:=by
 constructor<;>first|kernel_rfl|(intro w;kernel_rfl)
def fR0:ig.Bd prog DZ 237 f237:=⟨f238.name,f238.targs,f238.params,f238.resultTypes,by decide,func238.trans (by kernel_rfl)⟩
def fR1:ig.Bd prog DZ 201 f201:=⟨f202.name,f202.targs,f202.params,f202.resultTypes,by decide,func202.trans (by kernel_rfl)⟩
def fR2:ig.Bd prog DZ 158 f158:=⟨f160.name,f160.targs,f160.params,f160.resultTypes,by decide,func160.trans (by kernel_rfl)⟩
def fR3:Bears prog (DZ.f 157) (SlBodyF.n20 (rC.ren DZ)):=⟨f159.name,by decide,func159.trans (by kernel_rfl)⟩
def fR4:ig.Bd prog DZ 98 f98:=⟨f100.name,f100.targs,f100.params,f100.resultTypes,by decide,func100.trans (by kernel_rfl)⟩
def fR5:ig.Bd prog DZ 47 f47:=⟨f50.name,f50.targs,f50.params,f50.resultTypes,by decide,func50.trans (by kernel_rfl)⟩
def akE (x y:ER) (W:World):Calls prog 51 (#[.agg (encR x).toArray,.agg (encR y).toArray]++#[]) W fun e w'=>e=.returned (.int .i64 (Lib.compareInt x.1 y.1))/\ ∃q os',w'=grow (W.drewN q) os':=by
 obtain⟨xi,xt,xs,xd,xa,xn,xc⟩:=x;obtain⟨yi,yt,ys,yd,ya,yn,yc⟩:=y;simp only[encR,EC,ST,aon,afy,anr,agJ];have hc:=fun V=>Tryz.cmp_Compare_int xi yi V
 have HC:=ah hc;clear hc;obtain⟨z1,hz1⟩:=aj (⟨xt.toArray⟩:ByteArray);obtain⟨z2,hz2⟩:=aj (⟨yt.toArray⟩:ByteArray);rw[hz1,hz2];clear hz1 hz2;go_enter func51,ntmps51;go_wp2_with fail;refine(HC.out _).mono ?_;rintro e w' ⟨rfl,rfl⟩;go_wp2;go_ret;exact⟨rfl,0,#[_,_],by rw[atb,atb,grow_grow];rfl⟩
def akF {g cap n:Nat} {d:Array ER} {w:World} (R:RowK encR 5 w g 0 d) (hn:d.size=n) (hsz:n<=1073741824):
  Calls prog 50 #[.slice (some ⟨g,0,none⟩) n cap,.func (.func 51) #[] #[]] w fun e w'=>e=.returned (.tuple #[])/\ ∃d',d'.size=n/\SWK encR 5 w g 0 d' w'/\ig.bJ leI d'.toList/\d'.toList.Perm d.toList:=
 rC.Vl acz fR0 fR1 fR2 fR3 fR4 fR5 acy cfI (atd func51 (by kernel_rfl) rfl) (fun m os dk _ x y=>akE x y _) R hn (by omega)
def akG (p:Option Addr) (cap:Nat) (fv:Value) (w:World):Calls prog 50 #[.slice p 0 cap,fv] w fun e w'=>e=.returned (.tuple #[])/\w'=w:=rC.Vm acz fR3 fR4 fR5 p cap fv w
abbrev EP:=List UInt8×Int×Int×List UInt8×Sl×Sl
def wQ (x:EP):List Value:=[ST x.1,.int .i64 x.2.1,.int .i64 x.2.2.1,ST x.2.2.2.1,EC x.2.2.2.2.1,EC x.2.2.2.2.2]
def D5:Go.Shelf.Ren:=⟨fun n=>if n=237 then 260 else if n=201 then 236 else if n=158 then 199 else if n=157 then 198 else if n=98 then 155 else if n=47 then 95 else n,fun t=>if t=37 then 143 else if t=23 then 35 else if t=119 then 172 else t,fun g=>g⟩
def acA:rC.vI prog D5 6:=by
 constructor<;>first|kernel_rfl|(intro w;kernel_rfl)
def fP0:ig.Bd prog D5 237 f237:=⟨f260.name,f260.targs,f260.params,f260.resultTypes,by decide,func260.trans (by kernel_rfl)⟩
def fP1:ig.Bd prog D5 201 f201:=⟨f236.name,f236.targs,f236.params,f236.resultTypes,by decide,func236.trans (by kernel_rfl)⟩
def fP2:ig.Bd prog D5 158 f158:=⟨f199.name,f199.targs,f199.params,f199.resultTypes,by decide,func199.trans (by kernel_rfl)⟩
def fP3:Bears prog (D5.f 157) (SlBodyF.n20 (rC.ren D5)):=⟨f198.name,by decide,func198.trans (by kernel_rfl)⟩
def fP4:ig.Bd prog D5 98 f98:=⟨f155.name,f155.targs,f155.params,f155.resultTypes,by decide,func155.trans (by kernel_rfl)⟩
def fP5:ig.Bd prog D5 47 f47:=⟨f95.name,f95.targs,f95.params,f95.resultTypes,by decide,func95.trans (by kernel_rfl)⟩
def akH (x y:EP) (W:World):Calls prog 96 (#[.agg (wQ x).toArray,.agg (wQ y).toArray]++#[]) W fun e w'=>e=.returned (.int .i64 (Lib.compareBytes x.1 y.1))/\ ∃q os',w'=grow (W.drewN q) os':=by
 obtain⟨xk,xi,xj,xt,⟨xa,xn,xc⟩,xb,xm,xd⟩:=x;obtain⟨yk,yi,yj,yt,⟨ya,yn,yc⟩,yb,ym,yd⟩:=y;simp only[wQ,EC,ST,aon,afy,anr,agJ];have hc:=fun V=>Tryz.strings_Compare ⟨xk.toArray⟩ ⟨yk.toArray⟩ V
 simp only[anG]at hc;obtain⟨r,hr⟩:=aj (Lib.compareBytes xk yk);rw[hr]at hc⊢;obtain⟨z1,hz1⟩:=aj (⟨xt.toArray⟩:ByteArray);obtain⟨z2,hz2⟩:=aj (⟨yt.toArray⟩:ByteArray);obtain⟨z3,hz3⟩:=aj (⟨xk.toArray⟩:ByteArray);obtain⟨z4,X6⟩:=aj (⟨yk.toArray⟩:ByteArray);rw[hz1,hz2,hz3,X6];rw[hz3,X6]at hc;have HC:=ah hc;clear hz1 hz2 hz3 X6 hr hc;go_enter func96,ntmps96;go_wp2_with fail;refine(HC.out _).mono ?_;rintro e w' ⟨rfl,rfl⟩;go_wp2;go_ret;exact⟨rfl,0,#[_,_],by rw[atb,atb,grow_grow];rfl⟩
def acB: ∀a b:List UInt8,decide (Lib.compareBytes a b<0)=decide (a<b)
 |[],[]=>rfl
 |[],_ :: _=>by simp[Lib.compareBytes]
 |_ :: _,[]=>by simp[Lib.compareBytes]
 |x :: a,y :: b=>by
  unfold Lib.compareBytes;by_cases h:x<y
  ·simp[h,aoT]
  by_cases h':y<x
  ·have hne:x≠y:=fun e=>by subst e;exact h h'
   simp[h,h',aoT,hne]
  have he:x=y:=UInt8.le_antisymm (UInt8.not_lt.1 h') (UInt8.not_lt.1 h);subst he;have hi: ¬x<x:=h;rw[aer hi,aer hi,acB a b];simp[aoT,hi]
def JL (x y:EP):Bool:=decide (x.1<=y.1)
def akI:ig.Tot JL:=⟨fun h1 h2=>FY.trans _ _ _ h1 h2,fun {a b} h=>by have:=FY.total a.1 b.1;unfold JL at*;rw[h]at this;simpa using this⟩
def cfP (x y:EP):ltOf (fun x y:EP=>Lib.compareBytes x.1 y.1) x y= !JL y x:=by
 unfold ltOf JL;rw[acB];by_cases h:x.1<y.1
 ·have h2: ¬y.1<=x.1:=List.not_le.2 h
  simp[h,h2]
 have h2:y.1<=x.1:=List.not_lt.1 h;simp[h,h2]
def akJ {g cap n:Nat} {d:Array EP} {w:World} (R:RowK wQ 6 w g 0 d) (hn:d.size=n) (hsz:n<=1073741824):
  Calls prog 95 #[.slice (some ⟨g,0,none⟩) n cap,.func (.func 96) #[] #[]] w fun e w'=>e=.returned (.tuple #[])/\ ∃d',d'.size=n/\SWK wQ 6 w g 0 d' w'/\ig.bJ JL d'.toList/\d'.toList.Perm d.toList:=
 rC.Vl acA fP0 fP1 fP2 fP3 fP4 fP5 akI cfP (atd func96 (by kernel_rfl) rfl) (fun m os dk _ x y=>akH x y _) R hn (by omega)
def akK (p:Option Addr) (cap:Nat) (fv:Value) (w:World):Calls prog 95 #[.slice p 0 cap,fv] w fun e w'=>e=.returned (.tuple #[])/\w'=w:=rC.Vm acA fP3 fP4 fP5 p cap fv w
end Go.Proofs.YtdijgcnlbfgkdaaGreatDoor
namespace Go.Proofs.YtdijgcnlbfgkdaaGreatDoor
open Go.RowKit Go.Proofs.Tryz
def qB (w:World) (e:TypeId) (size:Nat):(w.alloc (.cells #[] e)).ownsRow w.heap.size e size (.slice (some ⟨w.heap.size,0,none⟩) 0 0) 0 []:=
 ⟨by simp,.inr ⟨w.heap.size,0,#[],rfl,aej _,atC w _,by simp,by simp,by simp,by simp⟩⟩
def akL:(prog.info? 5).map (fun i=>(i.zero,i.size,i.bytes))=some (some (.int .u8 0),1,1):=by kernel_rfl
def akM (B:Nat) (A:Option Addr) (c n:Nat) (news:List Value) (w:World) (h:Reads w B 1 A n news) (h1: ∀u∈news,u.oneCell'=true) (hn:n<=1073741824) (hB:B<=w.heap.size):
  Calls prog 242 #[.slice A n c] w fun e w'=> ∃v',e=.returned v'/\w'.ownsRow w.heap.size 5 1 v' n news/\Below w.heap.size w w':=by
 have q22: ∀(w:World) (a:Option Addr) (n c n' c':Nat),(binOp .eql 76 (.slice a n c) (.slice none n' c')).run prog w=.ok (.bool a.isNone) w:=fun w a n c n' c'=>asO w _ _ a n c n' c' asK
 cases A with
 |none=>
  obtain rfl:n=0:=by
   rcases afY n with h0|hp
   ·exact h0
   obtain⟨b,off,he,-⟩:=h.2 hp;cases he
  obtain rfl:news=[]:=aeI (by simpa using h.1)
  clear h hn h1;go_enter func242,ntmps242;go_wp2;go_ret;exact⟨_,rfl,arU _ _ _ _,aoa _ _⟩
 |some a=>
  obtain⟨i0,hi,hz0,hz1,hz2⟩:=asM akL;refine gq3 (h.below ((aoa B w).alloc hB (.cells #[] 5))) h1 (qB w 5 1) fun HH H1 sD=>?_;have fB:=ah (show 0+n<=maxLen by unfold maxLen;omega)
  have HL2:=ah (show(0+n)*1<=140737488355328 by omega)
  clear h h1 hn;go_enter func242,ntmps242;go_wp2_with (at_builtin;refine DI (w.alloc (.cells #[] 5)) rfl (.tmp 5) (.tmp 6) 76 rfl w.heap.size 5 i0 (.int .u8 0) 1 1 asK hi hz0 hz1 hz2 rfl (by decide) (.slice (some ⟨w.heap.size,0,none⟩) 0 0) 0 [] rfl sD.out B (some a) n c news rfl HH.out H1.out fB.out HL2.out (by simp) ?_)
  intro v9 w9 aF aO bI;have oP:=ah aF;have cZ:=ah (((aoa w.heap.size w).alloc (aej _) (.cells #[] 5)).grown aO (by simp) (fun j e=>by cases e;exact aej _))
  clear aF aO bI;go_wp2;go_ret;exact⟨v9,rfl,by simpa using oP.out,cZ.out⟩
def akN:(prog.info? 2).map (fun i=>(i.zero,i.size,i.bytes))=some (some (.int .i64 0),1,8):=by kernel_rfl
def akO (B:Nat) (A:Option Addr) (c n:Nat) (news:List Value) (w:World) (h:Reads w B 1 A n news) (h1: ∀u∈news,u.oneCell'=true) (hn:n<=1073741824) (hB:B<=w.heap.size):
  Calls prog 94 #[.slice A n c] w fun e w'=> ∃v',e=.returned v'/\w'.ownsRow w.heap.size 2 1 v' n news/\Below w.heap.size w w':=by
 have q22: ∀(w:World) (a:Option Addr) (n c n' c':Nat),(binOp .eql 41 (.slice a n c) (.slice none n' c')).run prog w=.ok (.bool a.isNone) w:=fun w a n c n' c'=>asO w _ _ a n c n' c' as4
 cases A with
 |none=>
  obtain rfl:n=0:=by
   rcases afY n with h0|hp
   ·exact h0
   obtain⟨b,off,he,-⟩:=h.2 hp;cases he
  obtain rfl:news=[]:=aeI (by simpa using h.1)
  clear h hn h1;go_enter func94,ntmps94;go_wp2;go_ret;exact⟨_,rfl,arU _ _ _ _,aoa _ _⟩
 |some a=>
  obtain⟨i0,hi,hz0,hz1,hz2⟩:=asM akN;refine gq3 (h.below ((aoa B w).alloc hB (.cells #[] 2))) h1 (qB w 2 1) fun HH H1 sD=>?_;have fB:=ah (show 0+n<=maxLen by unfold maxLen;omega)
  have HL2:=ah (show(0+n)*8<=140737488355328 by omega)
  clear h h1 hn;go_enter func94,ntmps94;go_wp2_with (at_builtin;refine DI (w.alloc (.cells #[] 2)) rfl (.tmp 5) (.tmp 6) 41 rfl w.heap.size 2 i0 (.int .i64 0) 1 8 as4 hi hz0 hz1 hz2 rfl (by decide) (.slice (some ⟨w.heap.size,0,none⟩) 0 0) 0 [] rfl sD.out B (some a) n c news rfl HH.out H1.out fB.out HL2.out (by simp) ?_)
  intro v9 w9 aF aO bI;have oP:=ah aF;have cZ:=ah (((aoa w.heap.size w).alloc (aej _) (.cells #[] 2)).grown aO (by simp) (fun j e=>by cases e;exact aej _))
  clear aF aO bI;go_wp2;go_ret;exact⟨v9,rfl,by simpa using oP.out,cZ.out⟩
def BF:(prog.info? 9).map (fun i=>(i.zero,i.size,i.bytes))=some (some (.string ⟨#[]⟩),1,16):=by kernel_rfl
def acC (B:Nat) (A:Option Addr) (c n:Nat) (news:List Value) (w:World) (h:Reads w B 1 A n news) (h1: ∀u∈news,u.oneCell'=true) (hn:n<=1073741824) (hB:B<=w.heap.size):
  Calls prog 44 #[.slice A n c] w fun e w'=> ∃v',e=.returned v'/\w'.ownsRow w.heap.size 9 1 v' n news/\Below w.heap.size w w':=by
 have q22: ∀(w:World) (a:Option Addr) (n c n' c':Nat),(binOp .eql 34 (.slice a n c) (.slice none n' c')).run prog w=.ok (.bool a.isNone) w:=fun w a n c n' c'=>asO w _ _ a n c n' c' ar0
 cases A with
 |none=>
  obtain rfl:n=0:=by
   rcases afY n with h0|hp
   ·exact h0
   obtain⟨b,off,he,-⟩:=h.2 hp;cases he
  obtain rfl:news=[]:=aeI (by simpa using h.1)
  clear h hn h1;go_enter func44,ntmps44;go_wp2;go_ret;exact⟨_,rfl,arU _ _ _ _,aoa _ _⟩
 |some a=>
  obtain⟨i0,hi,hz0,hz1,hz2⟩:=asM BF;refine gq3 (h.below ((aoa B w).alloc hB (.cells #[] 9))) h1 (qB w 9 1) fun HH H1 sD=>?_;have fB:=ah (show 0+n<=maxLen by unfold maxLen;omega)
  have HL2:=ah (show(0+n)*16<=140737488355328 by omega)
  clear h h1 hn;go_enter func44,ntmps44;go_wp2_with (at_builtin;refine DI (w.alloc (.cells #[] 9)) rfl (.tmp 5) (.tmp 6) 34 rfl w.heap.size 9 i0 (.string ⟨#[]⟩) 1 16 ar0 hi hz0 hz1 hz2 rfl (by decide) (.slice (some ⟨w.heap.size,0,none⟩) 0 0) 0 [] rfl sD.out B (some a) n c news rfl HH.out H1.out fB.out HL2.out (by simp) ?_)
  intro v9 w9 aF aO bI;have oP:=ah aF;have cZ:=ah (((aoa w.heap.size w).alloc (aej _) (.cells #[] 9)).grown aO (by simp) (fun j e=>by cases e;exact aej _))
  clear aF aO bI;go_wp2;go_ret;exact⟨v9,rfl,by simpa using oP.out,cZ.out⟩
def Vs:(prog.info? 143).map (fun i=>(i.zero,i.size,i.bytes))=some (some (.agg #[.string ⟨#[]⟩,.int .i64 0,.int .i64 0,.string ⟨#[]⟩,.slice none 0 0,.slice none 0 0]),6,96):=by kernel_rfl
def akP (B:Nat) (A:Option Addr) (c n:Nat) (news:List Value) (w:World) (h:Reads w B 6 A n news) (h1: ∀u∈news,u.oneCell'=true) (hn:n<=1073741824) (hB:B<=w.heap.size):
  Calls prog 93 #[.slice A n c] w fun e w'=> ∃v',e=.returned v'/\w'.ownsRow w.heap.size 143 6 v' n news/\Below w.heap.size w w':=by
 have q22: ∀(w:World) (a:Option Addr) (n c n' c':Nat),(binOp .eql 35 (.slice a n c) (.slice none n' c')).run prog w=.ok (.bool a.isNone) w:=fun w a n c n' c'=>asO w _ _ a n c n' c' asX
 cases A with
 |none=>
  obtain rfl:n=0:=by
   rcases afY n with h0|hp
   ·exact h0
   obtain⟨b,off,he,-⟩:=h.2 hp;cases he
  obtain rfl:news=[]:=aeI (by simpa using h.1)
  clear h hn h1;go_enter func93,ntmps93;go_wp2;go_ret;exact⟨_,rfl,arU _ _ _ _,aoa _ _⟩
 |some a=>
  obtain⟨i0,hi,hz0,hz1,hz2⟩:=asM Vs;refine gq3 (h.below ((aoa B w).alloc hB (.cells #[] 143))) h1 (qB w 143 6) fun HH H1 sD=>?_;have fB:=ah (show 0+n<=maxLen by unfold maxLen;omega)
  have HL2:=ah (show(0+n)*96<=140737488355328 by omega)
  clear h h1 hn;go_enter func93,ntmps93;go_wp2_with (at_builtin;refine DI (w.alloc (.cells #[] 143)) rfl (.tmp 5) (.tmp 6) 35 rfl w.heap.size 143 i0 (.agg #[.string ⟨#[]⟩,.int .i64 0,.int .i64 0,.string ⟨#[]⟩,.slice none 0 0,.slice none 0 0]) 6 96 asX hi hz0 hz1 hz2 rfl (by decide) (.slice (some ⟨w.heap.size,0,none⟩) 0 0) 0 [] rfl sD.out B (some a) n c news rfl HH.out H1.out fB.out HL2.out (by simp) ?_)
  intro v9 w9 aF aO bI;have oP:=ah aF;have cZ:=ah (((aoa w.heap.size w).alloc (aej _) (.cells #[] 143)).grown aO (by simp) (fun j e=>by cases e;exact aej _))
  clear aF aO bI;go_wp2;go_ret;exact⟨v9,rfl,by simpa using oP.out,cZ.out⟩
def akQ:(prog.info? 37).map (fun i=>(i.zero,i.size,i.bytes))=some (some (.agg #[.int .i64 0,.slice none 0 0,.slice none 0 0]),3,56):=by kernel_rfl
def akR (B:Nat) (A:Option Addr) (c n:Nat) (news:List Value) (w:World) (h:Reads w B 3 A n news) (h1: ∀u∈news,u.oneCell'=true) (hn:n<=1073741824) (hB:B<=w.heap.size):
  Calls prog 42 #[.slice A n c] w fun e w'=> ∃v',e=.returned v'/\w'.ownsRow w.heap.size 37 3 v' n news/\Below w.heap.size w w':=by
 have q22: ∀(w:World) (a:Option Addr) (n c n' c':Nat),(binOp .eql 23 (.slice a n c) (.slice none n' c')).run prog w=.ok (.bool a.isNone) w:=fun w a n c n' c'=>asO w _ _ a n c n' c' as6
 cases A with
 |none=>
  obtain rfl:n=0:=by
   rcases afY n with h0|hp
   ·exact h0
   obtain⟨b,off,he,-⟩:=h.2 hp;cases he
  obtain rfl:news=[]:=aeI (by simpa using h.1)
  clear h hn h1;go_enter func42,ntmps42;go_wp2;go_ret;exact⟨_,rfl,arU _ _ _ _,aoa _ _⟩
 |some a=>
  obtain⟨i0,hi,hz0,hz1,hz2⟩:=asM akQ;refine gq3 (h.below ((aoa B w).alloc hB (.cells #[] 37))) h1 (qB w 37 3) fun HH H1 sD=>?_;have fB:=ah (show 0+n<=maxLen by unfold maxLen;omega)
  have HL2:=ah (show(0+n)*56<=140737488355328 by omega)
  clear h h1 hn;go_enter func42,ntmps42;go_wp2_with (at_builtin;refine DI (w.alloc (.cells #[] 37)) rfl (.tmp 5) (.tmp 6) 23 rfl w.heap.size 37 i0 (.agg #[.int .i64 0,.slice none 0 0,.slice none 0 0]) 3 56 as6 hi hz0 hz1 hz2 rfl (by decide) (.slice (some ⟨w.heap.size,0,none⟩) 0 0) 0 [] rfl sD.out B (some a) n c news rfl HH.out H1.out fB.out HL2.out (by simp) ?_)
  intro v9 w9 aF aO bI;have oP:=ah aF;have cZ:=ah (((aoa w.heap.size w).alloc (aej _) (.cells #[] 37)).grown aO (by simp) (fun j e=>by cases e;exact aej _))
  clear aF aO bI;go_wp2;go_ret;exact⟨v9,rfl,by simpa using oP.out,cZ.out⟩
def akS:(prog.info? 74).map (fun i=>(i.zero,i.size,i.bytes))=some (some (.agg #[.int .i64 0,.string ⟨#[]⟩,.int .i64 0,.int .i64 0,.slice none 0 0]),5,64):=by kernel_rfl
def akT (B:Nat) (A:Option Addr) (c n:Nat) (news:List Value) (w:World) (h:Reads w B 5 A n news) (h1: ∀u∈news,u.oneCell'=true) (hn:n<=1073741824) (hB:B<=w.heap.size):
  Calls prog 43 #[.slice A n c] w fun e w'=> ∃v',e=.returned v'/\w'.ownsRow w.heap.size 74 5 v' n news/\Below w.heap.size w w':=by
 have q22: ∀(w:World) (a:Option Addr) (n c n' c':Nat),(binOp .eql 24 (.slice a n c) (.slice none n' c')).run prog w=.ok (.bool a.isNone) w:=fun w a n c n' c'=>asO w _ _ a n c n' c' as7
 cases A with
 |none=>
  obtain rfl:n=0:=by
   rcases afY n with h0|hp
   ·exact h0
   obtain⟨b,off,he,-⟩:=h.2 hp;cases he
  obtain rfl:news=[]:=aeI (by simpa using h.1)
  clear h hn h1;go_enter func43,ntmps43;go_wp2;go_ret;exact⟨_,rfl,arU _ _ _ _,aoa _ _⟩
 |some a=>
  obtain⟨i0,hi,hz0,hz1,hz2⟩:=asM akS;refine gq3 (h.below ((aoa B w).alloc hB (.cells #[] 74))) h1 (qB w 74 5) fun HH H1 sD=>?_;have fB:=ah (show 0+n<=maxLen by unfold maxLen;omega)
  have HL2:=ah (show(0+n)*64<=140737488355328 by omega)
  clear h h1 hn;go_enter func43,ntmps43;go_wp2_with (at_builtin;refine DI (w.alloc (.cells #[] 74)) rfl (.tmp 5) (.tmp 6) 24 rfl w.heap.size 74 i0 (.agg #[.int .i64 0,.string ⟨#[]⟩,.int .i64 0,.int .i64 0,.slice none 0 0]) 5 64 as7 hi hz0 hz1 hz2 rfl (by decide) (.slice (some ⟨w.heap.size,0,none⟩) 0 0) 0 [] rfl sD.out B (some a) n c news rfl HH.out H1.out fB.out HL2.out (by simp) ?_)
  intro v9 w9 aF aO bI;have oP:=ah aF;have cZ:=ah (((aoa w.heap.size w).alloc (aej _) (.cells #[] 74)).grown aO (by simp) (fun j e=>by cases e;exact aej _))
  clear aF aO bI;go_wp2;go_ret;exact⟨v9,rfl,by simpa using oP.out,cZ.out⟩
end Go.Proofs.YtdijgcnlbfgkdaaGreatDoor
