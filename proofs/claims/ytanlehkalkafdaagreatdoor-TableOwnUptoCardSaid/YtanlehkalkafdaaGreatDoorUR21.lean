/- Contracts and plain laws,part 21. -/
import Derived.Test.YtanlehkalkafdaaGreatDoorUR20
set_option maxHeartbeats 64000000
set_option maxRecDepth 1000000
set_option linter.all false
namespace Go.Proofs.YtanlehkalkafdaaGreatDoor.StbG
open Go Go.Shelf Go.RowKit Go.Lib Go.Sort Go.Proofs Go.Proofs.YtanlehkalkafdaaGreatDoor.Stb
variable {P:Program} {ρ:Ren} {α:Type} [Inhabited α]
theorem stable {k:Nat} (L:LayS P ρ k) (FG:Bd P ρ 252 Tryz.f252) (FR:Bd P ρ 220 Tryz.f220) (FS:Bd P ρ 175 Tryz.f175)
  (FI:Bears P (ρ.f 174) (SlBodyF.n20 (ren ρ))) (FT:Bd P ρ 125 Tryz.f125)
  {le:α->α->Bool} (hT:Tot le) {enc:α->List Value} {cf:α->α->Int} (hcf: ∀x y,ltOf cf x y= !le y x) {g:Nat} {cb:Array Value} (eg: ∀args w,(callFunc g args).run P w=.ok (.enter g args) w) {blk off cap n:Nat} {d0 d:Array α} {w0 w:World} (hC:CmpLays P g cb enc k cf blk off n w0) (R:RowK enc k w0 blk off d0) (hn:d0.size=n) (hs:d.size=n) (S:SWK enc k w0 blk off d w) (hsz:n<1152921504606846976):
  Calls P (ρ.f 125) #[.slice (some ⟨blk,off,none⟩) n cap,.int .i64 n,.func (.func g) #[] cb] w fun e w'=>e=.returned (.tuple #[])/\ ∃d',d'.size=n/\SWK enc k w0 blk off d' w'/\Srt le d'.toList/\d'.toList.Perm d.toList:=by
 have mixed:=L.mixed;have t0:=L.t0;have a0:=L.a0;have z0:=L.z0;have v0:=L.v0;have t3:=L.t3;have a3:=L.a3;have z3:=L.z3;have v3:=L.v3;have t4:=L.t4;have a4:=L.a4;have z4:=L.z4;have v4:=L.v4;have t22:=L.t22;have a22:=L.a22;have z22:=L.z22;have v22:=L.v22;have t25:=L.t25;have a25:=L.a25;have z25:=L.z25;have v25:=L.v25
 have eI: ∀args w,(callFunc (ρ.f 174) args).run P w=.ok (.enter (ρ.f 174) args) w:=FI.enters rfl
 have eS: ∀args w,(callFunc (ρ.f 175) args).run P w=.ok (.enter (ρ.f 175) args) w:=FS.enters rfl
 have S0:Aside (SWK enc k w0 blk off d w):=S;have HC:Aside _:=hC;have HCF:=ah hcf
 have HTT:=ah hT;have HS:=ah hs;have HN:=ah hn;have EG:=ah eg;clear hcf hT hs hn S hC
 obtain⟨nm,tg,ps,rt,-,FX⟩:=FT;simp only[Tryz.f125,vg,rnC,rnR,rnOp,rnE,rnO,tV,uT]at FX
 go_enter FX,uO;go_wp2
 go_loopg [7,8] n (fun kx s7 s8 wr=> ∃(qa qb:Nat) (dk:Array α) (dn rs:List α),s7=.int .i64 (qa:Int)/\s8=.int .i64 (qb:Int)/\qa<=n/\n - qa<=kx/\qb<=n+20/\dk.size=n/\Aside (SWK enc k w0 blk off dk wr)/\Hid (dk.toList=dn++rs/\dn.length=qa/\Ch le 20 dn/\(dn++rs).Perm d.toList/\qb=qa+20/\ ∃q,qa=q*20))
 case atStart=>exact⟨0,20,d,[],d.toList,rfl,rfl,by omega,by omega,by omega,HS.out,S0,⟨rfl,rfl,Ch.nil 20,.refl _,rfl,0,rfl⟩⟩
 clear S0;obtain⟨qa,qb,dk,dn,rs,rfl,rfl,hq,hk,hqb,hds,S1,HD⟩:=hrel
 have hd:_/\_/\_/\_/\_/\_:=HD;have hln:=uo List.length hd.1;rw[vH,hds,rP,hd.2.1]at hln
 by_cases hb:qb<=n
 ·have hbI:(qb:Int)<=(n:Int):=by omega
  have hq20:qb=qa+20:=hd.2.2.2.2.1
  obtain⟨X,rs',rfl,hX⟩: ∃X rs',rs=X++rs'/\X.length=20:=⟨rs.take 20,rs.drop 20,(uz 20 rs).symm,by rw[tK];omega⟩
  have hin:=insertion L FI HTT.out HCF.out (g:=g) (cb:=cb) EG.out (cap:=cap) (a:=qa) (b:=qb) HC.out R HN.out hds S1.out (p:=dn) (x:=X) (s:=rs') hd.1 hd.2.1 (by omega) (by omega)
  have HIN:=ah hin;have HDD:=ah hd;have HX:=ah hX
  have HK:=ah (show n - qb<=gk - 1/\1<=gk/\qb+20<=n+20 from⟨by omega,by omega,by omega⟩)
  clear hin hd HD hX hk hln S1 hq20;go_wp2_with fail;refine HIN.mono ?_
  rintro e w2 ⟨rfl,d2,X',h1,h2,h3,h4,h5⟩;have S2:Aside (SWK enc k w0 blk off d2 w2):=h2
  have H2:=ah (show d2.size=n/\d2.toList=(dn++X')++rs'/\(dn++X').length=qb/\Ch le 20 (dn++X')/\((dn++X')++rs').Perm d.toList/\ ∃q,qb=q*20 by
   obtain⟨-,g2,g3,g4,g5,q,g6⟩:=HDD.out;have hl:=h5.length_eq;have hx:=HX.out
   refine⟨h1,by rw[h3];simp,by rw[rP];omega,g3.snoc (g2.trans g6) h4 (by omega), ?_,q+1,by omega⟩
   refine .trans ?_ g4;rw[sV]
   exact(h5.append_right rs').append_left dn)
  clear h1 h2 h3 h4 h5;go_wp2
  go_roundg (gk - 1)
  case measure=>have:=HK.out;omega
  exact⟨qb,qb+20,d2,dn++X',rs',rfl,by simp,hb,HK.out.1,HK.out.2.2,H2.out.1,S2,⟨H2.out.2.1,H2.out.2.2.1,H2.out.2.2.2.1,H2.out.2.2.2.2.1,rfl,H2.out.2.2.2.2.2⟩⟩
 have hbI:(n:Int)<(qb:Int):=by omega
 have hin:=insertion L FI HTT.out HCF.out (g:=g) (cb:=cb) EG.out (cap:=cap) (a:=qa) (b:=n) HC.out R HN.out hds S1.out (p:=dn) (x:=rs) (s:=[]) (by rw[tC];exact hd.1) hd.2.1 (by omega) (by omega)
 have HIN:=ah hin;have HDD:=ah hd
 have HQ:=ah (show rs.length<=20 by have:=hd.2.2.2.2.1;omega)
 clear hin hd HD hk hln S1;go_wp2_with fail;refine HIN.mono ?_
 rintro e w2 ⟨rfl,d2,X',h1,h2,h3,h4,h5⟩;have S2:Aside (SWK enc k w0 blk off d2 w2):=h2
 have H2:=ah (show d2.size=n/\Ch le 20 d2.toList/\d2.toList.Perm d.toList by
  obtain⟨-,g2,g3,g4,g5,q,g6⟩:=HDD.out;rw[tC]at h3;rw[h3];have hl:=h5.length_eq
  have hx:=HQ.out
  exact⟨h1,g3.snoc (g2.trans g6) h4 (by omega),.trans (h5.append_left dn) g4⟩)
 clear h1 h2 h3 h4 h5 HDD HIN;go_wp2_with fail
 go_loopg [6] n (fun kx s6 wr=> ∃(bs:Nat) (dk:Array α),s6=.int .i64 (bs:Int)/\0<bs/\bs<=2*n+20/\n - bs<=kx/\dk.size=n/\Aside (SWK enc k w0 blk off dk wr)/\Hid (Ch le bs dk.toList/\dk.toList.Perm d.toList))
 case atStart=>exact⟨20,d2,rfl,by omega,by omega,by omega,H2.out.1,S2,H2.out.2⟩
 clear S2 H2;obtain⟨bs,dk,rfl,hb0,hbm,hk,hds,S1,HD⟩:=hrel
 obtain⟨gO,hgO⟩: ∃x,x=gk:=⟨_,rfl⟩;subst hgO;by_cases hbn:bs<n
 ·have hbnI:(bs:Int)<(n:Int):=by omega
  obtain⟨b2,hb2⟩:=aj (2*bs);have e2:(2:Int)*(bs:Int)=(b2:Int):=by omega
  have e3:(bs:Int)*2=(b2:Int):=by omega
  have b2b:b2<4611686018427387904:=by omega
  have HB2:=ah (show b2=2*bs/\n - b2<=gO - 1/\1<=gO/\b2<=2*n+20 from⟨by omega,by omega,by omega,by omega⟩)
  have S3:Aside (SWK enc k w0 blk off dk wr):=S1;have HDS:=ah hds
  have HDK:Hid (dk.toList=[]++dk.toList/\([]:List α).length=0/\Ch le b2 ([]:List α)/\Ch le bs dk.toList/\([]++dk.toList).Perm d.toList/\b2=0+b2/\ ∃q,0=q*b2):=by
   have hd:_/\_:=HD;exact⟨rfl,rfl,Ch.nil b2,hd.1,hd.2,(wL _).symm,0,by omega⟩
  clear hb2 HD S1 hk hds;go_wp2_with fail
  go_loopg [7,8] n (fun kx s7 s8 wv=> ∃(qa qb:Nat) (dk:Array α) (dn rs:List α),s7=.int .i64 (qa:Int)/\s8=.int .i64 (qb:Int)/\qa<=n/\n - qa<=kx/\qb<=4*n+40/\dk.size=n/\Aside (SWK enc k w0 blk off dk wv)/\Hid (dk.toList=dn++rs/\dn.length=qa/\Ch le b2 dn/\Ch le bs rs/\(dn++rs).Perm d.toList/\qb=qa+b2/\ ∃q,qa=q*b2))
  case atStart=>exact⟨0,b2,dk,[],dk.toList,rfl,rfl,by omega,by omega,by omega,HDS.out,S3,HDK⟩
  clear S3 HDS HDK;obtain⟨qa,qb,dk,dn,rs,rfl,rfl,hq,hk,hqb,hds,S1,HD⟩:=hrel
  have hd:_/\_/\_/\_/\_/\_/\_:=HD;have hln:=uo List.length hd.1;rw[vH,hds,rP,hd.2.1]at hln
  have hqb2:qb=qa+b2:=hd.2.2.2.2.2.1;obtain⟨qm,hqm⟩:=aj (qa+bs)
  have em:(qa:Int)+(bs:Int)=(qm:Int):=by omega
  have bm:qm<4611686018427387904:=by omega
  by_cases hb:qb<=n
  ·have hbI:(qb:Int)<=(n:Int):=by omega
   obtain⟨X,rs',rfl,hX⟩: ∃X rs',rs=X++rs'/\X.length=bs:=⟨rs.take bs,rs.drop bs,(uz bs rs).symm,by rw[tK];have:=HB2.out;omega⟩
   obtain⟨Y,rs2,rfl,hY⟩: ∃Y r2,rs'=Y++r2/\Y.length=bs:=⟨rs'.take bs,rs'.drop bs,(uz bs rs').symm,by rw[tK];have:=HB2.out;rw[rP]at hln;omega⟩
   have hcx:Ch le bs (X ++(Y++rs2)):=hd.2.2.2.1
   have hsX:Srt le X:=by have:=hcx.head;rwa [<-hX,xO]at this
   have hcy:Ch le bs (Y++rs2):=by have:=hcx.tail;rwa [show(X ++(Y++rs2)).drop bs=Y++rs2 by rw[<-hX,yg]]at this
   have hsY:Srt le Y:=by have:=hcy.head;rwa [<-hY,xO]at this
   have hcr:Ch le bs rs2:=by have:=hcy.tail;rwa [show(Y++rs2).drop bs=rs2 by rw[<-hY,yg]]at this
   have hsm:=symMerge L FG FR FS HTT.out HCF.out (g:=g) (cb:=cb) EG.out (cap:=cap) HC.out R HN.out (by omega) (qb - qa) qa qm qb dk wr dn X Y rs2 (rM _) hds S1.out hd.1 hd.2.1 (by omega) (by have:=HB2.out;omega) (uS.1 (by omega)) (uS.1 (by omega)) hsX hsY
   have HSM:=ah hsm;have HDD:=ah hd
   have HXY:=ah (show X.length=bs/\Y.length=bs/\Ch le bs rs2 from⟨hX,hY,hcr⟩)
   have HK:=ah (show n - qb<=gk - 1/\1<=gk/\qb+b2<=4*n+40 from⟨by have:=HB2.out;omega,by have:=HB2.out;omega,by have:=HB2.out;omega⟩)
   have HQM:=ah hqm;obtain⟨q3,hq3⟩:=aj (qb+b2)
   have eqb:(qb:Int)+(b2:Int)=(q3:Int):=by omega
   have bqb:q3<4611686018427387904:=by omega
   have HQ3:=ah hq3;clear hsm hd HD hX hY hcx hsX hcy hsY hcr hk hln S1 hqb2 hqm hq3
   go_wp2_with fail;refine HSM.mono ?_;rintro e w3 ⟨rfl,d3,C,h1,h2,h3,h4,h5⟩
   have S4:Aside (SWK enc k w0 blk off d3 w3):=h2
   have H3:=ah (show d3.size=n/\d3.toList=(dn++C)++rs2/\(dn++C).length=qb/\Ch le b2 (dn++C)/\Ch le bs rs2/\((dn++C)++rs2).Perm d.toList/\ ∃q,qb=q*b2 by
    obtain⟨-,g2,g3,-,g4,g5,q,g6⟩:=HDD.out;have hl:=h5.length_eq;rw[rP]at hl
    have hx:=HXY.out;have hb:=HB2.out.1
    refine⟨h1,by rw[h3];simp,by rw[rP];omega,g3.snoc (g2.trans g6) h4 (by omega),hx.2.2, ?_,q+1,by rw[x9];omega⟩
    refine .trans ?_ g4;rw[sV,<-sV X]
    exact(h5.append_right rs2).append_left dn)
   clear h1 h2 h3 h4 h5;go_wp2
   go_roundg (gk - 1)
   case measure=>have:=HK.out;omega
   exact⟨qb,q3,d3,dn++C,rs2,rfl,rfl,hb,HK.out.1,by rw[<-HQ3.out];exact HK.out.2.2,H3.out.1,S4,⟨H3.out.2.1,H3.out.2.2.1,H3.out.2.2.2.1,H3.out.2.2.2.2.1,H3.out.2.2.2.2.2.1,HQ3.symm,H3.out.2.2.2.2.2.2⟩⟩
  have hbI:(n:Int)<(qb:Int):=by omega
  by_cases hm:qm<n
  ·have hmI:(qm:Int)<(n:Int):=by omega
   obtain⟨X,Y,rfl,hX⟩: ∃X rs',rs=X++rs'/\X.length=bs:=⟨rs.take bs,rs.drop bs,(uz bs rs).symm,by rw[tK];have:=HB2.out;omega⟩
   rw[rP]at hln;have hcx:Ch le bs (X++Y):=hd.2.2.2.1
   have hsX:Srt le X:=by have:=hcx.head;rwa [<-hX,xO]at this
   have hcy:Ch le bs Y:=by have:=hcx.tail;rwa [show(X++Y).drop bs=Y by rw[<-hX,yg]]at this
   have hsY:Srt le Y:=hcy.all (by have:=HB2.out;omega)
   have hsm:=symMerge L FG FR FS HTT.out HCF.out (g:=g) (cb:=cb) EG.out (cap:=cap) HC.out R HN.out (by omega) (n - qa) qa qm n dk wr dn X Y [] (rM _) hds S1.out (by rw[tC];exact hd.1) hd.2.1 (by omega) (by omega) (uS.1 (by omega)) (uS.1 (by omega)) hsX hsY
   have HSM:=ah hsm;have HDD:=ah hd
   have HXY:=ah (show X.length+Y.length<=b2 by have:=HB2.out;omega)
   clear hsm hd HD hX hcx hsX hcy hsY hk hln S1 hqb2 hqm hm;go_wp2_with fail
   refine HSM.mono ?_;rintro e w3 ⟨rfl,d3,C,h1,h2,h3,h4,h5⟩
   have S4:Aside (SWK enc k w0 blk off d3 w3):=h2
   have H3:=ah (show d3.size=n/\Ch le b2 d3.toList/\d3.toList.Perm d.toList by
    obtain⟨-,g2,g3,-,g4,g5,q,g6⟩:=HDD.out;have hl:=h5.length_eq;rw[rP]at hl
    rw[tC]at h3;rw[h3]
    exact⟨h1,g3.snoc (g2.trans g6) h4 (by rw[hl];exact HXY.out),.trans (h5.append_left dn) g4⟩)
   clear h1 h2 h3 h4 h5;go_wp2
   go_roundg (gO - 1)
   case measure=>have:=HB2.out;omega
   exact⟨b2,d3,rfl,by have:=HB2.out;omega,HB2.out.2.2.2,HB2.out.2.1,H3.out.1,S4,H3.out.2⟩
  have hmI:(n:Int)<=(qm:Int):=by omega
  have hsr:Srt le rs:=hd.2.2.2.1.all (by omega)
  have H3:=ah (show dk.size=n/\Ch le b2 dk.toList/\dk.toList.Perm d.toList by
   obtain⟨g1,g2,g3,-,g4,g5,q,g6⟩:=hd;rw[g1]
   exact⟨hds,g3.snoc (g2.trans g6) hsr (by have:=HB2.out;omega),g4⟩)
  have S4:Aside (SWK enc k w0 blk off dk wr):=S1;clear hd HD hsr hk hln S1 hqb2 hqm hm
  go_wp2
  go_roundg (gO - 1)
  case measure=>have:=HB2.out;omega
  exact⟨b2,dk,rfl,by have:=HB2.out;omega,HB2.out.2.2.2,HB2.out.2.1,H3.out.1,S4,H3.out.2⟩
 have hbnI:(n:Int)<=(bs:Int):=by omega
 have hd:_/\_:=HD
 have H3:=ah (show Srt le dk.toList/\dk.toList.Perm d.toList from⟨hd.1.all (by rw[vH];omega),hd.2⟩)
 clear hd HD;go_wp2
 go_end0
 exact⟨rfl,dk,hds,S1.out,H3.out⟩
theorem sortStable {k:Nat} (L:LayS P ρ k) (FG:Bd P ρ 252 Tryz.f252) (FR:Bd P ρ 220 Tryz.f220) (FS:Bd P ρ 175 Tryz.f175)
  (FI:Bears P (ρ.f 174) (SlBodyF.n20 (ren ρ))) (FT:Bd P ρ 125 Tryz.f125) (FW:Bd P ρ 76 Tryz.f76)
  {le:α->α->Bool} (hT:Tot le) {enc:α->List Value} {cf:α->α->Int} (hcf: ∀x y,ltOf cf x y= !le y x) {g:Nat} {cb:Array Value} (eg: ∀args w,(callFunc g args).run P w=.ok (.enter g args) w) {blk off cap n:Nat} {d:Array α} {w:World} (hC:CmpLays P g cb enc k cf blk off n w) (R:RowK enc k w blk off d) (hn:d.size=n) (hsz:n<1152921504606846976):
  Calls P (ρ.f 76) #[.slice (some ⟨blk,off,none⟩) n cap,.func (.func g) #[] cb] w fun e w'=>e=.returned (.tuple #[])/\ ∃d',d'.size=n/\SWK enc k w blk off d' w'/\Srt le d'.toList/\d'.toList.Perm d.toList:=by
 have mixed:=L.mixed;have t0:=L.t0;have a0:=L.a0;have z0:=L.z0;have v0:=L.v0;have t3:=L.t3;have a3:=L.a3;have z3:=L.z3;have v3:=L.v3;have t22:=L.t22;have a22:=L.a22;have z22:=L.z22;have v22:=L.v22;have t25:=L.t25;have a25:=L.a25;have z25:=L.z25;have v25:=L.v25
 have eT: ∀args w,(callFunc (ρ.f 125) args).run P w=.ok (.enter (ρ.f 125) args) w:=FT.enters rfl
 have HT:=ah (stable L FG FR FS FI FT hT hcf (cap:=cap) eg hC R hn hn (SWK.start R.hH) hsz)
 clear hT hcf eg hC hn R;obtain⟨nm,tg,ps,rt,-,FX⟩:=FW
 simp only[Tryz.f76,vg,rnC,rnR,rnOp,rnE,rnO,tV,uT]at FX;go_enter FX,uO;go_wp2_with fail
 refine HT.mono ?_;rintro e w' ⟨rfl,d',h1,h2,h3,h4⟩
 have H:=ah (And.intro h1 (And.intro h2 (And.intro h3 h4)));clear h1 h2 h3 h4;go_wp2
 go_end0
 exact⟨rfl,d',H.out⟩
theorem ins_none (L:SlLaysF0.n20 P ρ) (p:Option Addr) (cap:Nat) (fv:Value) (w:World):Calls P (ρ.f 20) #[.slice p 0 cap,.int .i64 0,.int .i64 0,fv] w fun e w'=>e=.returned (.tuple #[])/\w'=w:=by
 have mixed:=L.mixed;have t0:=L.t0;have a0:=L.a0;have z0:=L.z0;have v0:=L.v0;have t3:=L.t3;have a3:=L.a3;have z3:=L.z3;have v3:=L.v3;have t4:=L.t4;have a4:=L.a4;have z4:=L.z4;have v4:=L.v4;have t22:=L.t22;have a22:=L.a22;have z22:=L.z22;have v22:=L.v22;have t25:=L.t25;have a25:=L.a25;have z25:=L.z25;have v25:=L.v25
 obtain⟨_,_,FG⟩:=L.f20;go_enter FG,SlBodyF.n20_ntmps ρ;go_wp2;refine wp_loop_rounds 1 ?_
 rw[rounds_succ];go_wp2
 go_end0
 exact⟨rfl,rfl⟩
theorem stable_none {k:Nat} (L:LayS P ρ k) (FI:Bears P (ρ.f 174) (SlBodyF.n20 (ren ρ))) (FT:Bd P ρ 125 Tryz.f125) (p:Option Addr) (cap:Nat) (fv:Value) (w:World):
  Calls P (ρ.f 125) #[.slice p 0 cap,.int .i64 0,fv] w fun e w'=>e=.returned (.tuple #[])/\w'=w:=by
 have mixed:=L.mixed;have t0:=L.t0;have a0:=L.a0;have z0:=L.z0;have v0:=L.v0;have t3:=L.t3;have a3:=L.a3;have z3:=L.z3;have v3:=L.v3;have t4:=L.t4;have a4:=L.a4;have z4:=L.z4;have v4:=L.v4;have t22:=L.t22;have a22:=L.a22;have z22:=L.z22;have v22:=L.v22;have t25:=L.t25;have a25:=L.a25;have z25:=L.z25;have v25:=L.v25
 have eI: ∀args w,(callFunc (ρ.f 174) args).run P w=.ok (.enter (ρ.f 174) args) w:=FI.enters rfl
 have hi:=fun W=>ins_none (L.ins FI) p cap fv W
 have HI:=ah hi;clear hi;obtain⟨nm,tg,ps,rt,-,FX⟩:=FT
 simp only[Tryz.f125,vg,rnC,rnR,rnOp,rnE,rnO,tV,uT]at FX;go_enter FX,uO;go_wp2
 refine wp_loop_rounds 1 ?_;rw[rounds_succ];go_wp2_with fail;refine(HI.out _).mono ?_
 rintro e w' ⟨rfl,rfl⟩;go_wp2;refine wp_loop_rounds 1 ?_;rw[rounds_succ];go_wp2
 go_end0
 exact⟨rfl,rfl⟩
theorem sortStable_none {k:Nat} (L:LayS P ρ k) (FI:Bears P (ρ.f 174) (SlBodyF.n20 (ren ρ))) (FT:Bd P ρ 125 Tryz.f125) (FW:Bd P ρ 76 Tryz.f76) (p:Option Addr) (cap:Nat) (fv:Value) (w:World):
  Calls P (ρ.f 76) #[.slice p 0 cap,fv] w fun e w'=>e=.returned (.tuple #[])/\w'=w:=by
 have mixed:=L.mixed;have t0:=L.t0;have a0:=L.a0;have z0:=L.z0;have v0:=L.v0;have t3:=L.t3;have a3:=L.a3;have z3:=L.z3;have v3:=L.v3;have t4:=L.t4;have a4:=L.a4;have z4:=L.z4;have v4:=L.v4;have t22:=L.t22;have a22:=L.a22;have z22:=L.z22;have v22:=L.v22;have t25:=L.t25;have a25:=L.a25;have z25:=L.z25;have v25:=L.v25
 have eT: ∀args w,(callFunc (ρ.f 125) args).run P w=.ok (.enter (ρ.f 125) args) w:=FT.enters rfl
 have HT:=ah (fun W=>stable_none L FI FT p cap fv W)
 obtain⟨nm,tg,ps,rt,-,FX⟩:=FW;simp only[Tryz.f76,vg,rnC,rnR,rnOp,rnE,rnO,tV,uT]at FX
 go_enter FX,uO;go_wp2_with fail;refine(HT.out _).mono ?_;rintro e w' ⟨rfl,rfl⟩;go_wp2
 go_end0
 exact⟨rfl,rfl⟩
end Go.Proofs.YtanlehkalkafdaaGreatDoor.StbG
namespace Go.Proofs.YtanlehkalkafdaaGreatDoor
open Go.RowKit Go.Sort Go.Proofs.YtanlehkalkafdaaGreatDoor.Stb
theorem flat_lk {α:Type} {f:α->List Value} {k:Nat}: ∀{l:List α},(∀x∈l,(f x).length=k)->(l.flatMap f).length=l.length*k
 |[],_=>by simp
 |a :: r,h=>by rw[uK,rP,h a (by simp),flat_lk (fun x hx=>h x (by simp[hx])),sS,x9,x8]
theorem flat_get {α:Type} {f:α->List Value} {k:Nat}: ∀{l:List α} {i:Nat} {a:α},(∀x∈l,(f x).length=k)->l[i]?=some a-> ∀j,j<k->(l.flatMap f)[i*k+j]?=(f a)[j]?
 |[],i,a,_,h,_,_=>by simp at h
 |x :: r,0,a,hf,h,j,hj=>by
  simp only[sD,uH]at h;subst h;rw[uK,BD,wL,uN (by rw[hf x (by simp)];exact hj)]
 |x :: r,i+1,a,hf,h,j,hj=>by
  have hx:=hf x (by simp)
  rw[uK,uI (by rw[hx,x9];omega),hx,show(i+1)*k+j - k=i*k+j by rw[x9];omega]
  exact flat_get (fun y hy=>hf y (by simp[hy])) (by simpa using h) j hj
theorem flat_set {β:Type} {l1 l2:List (β×List Value)} {x:β} {cs:List Value} {k j:Nat} (h: ∀y∈l1,y.2.length=k) (hj:j<cs.length) (u:Value):
  ((l1 ++(x,cs) :: l2).flatMap Prod.snd).set (l1.length*k+j) u=(l1 ++(x,cs.set j u) :: l2).flatMap Prod.snd:=by
 have hl:=flat_lk (f:=Prod.snd) h
 rw[vM,vM,uK,uK,List.set_append,rU (by omega),hl,xq,List.set_append,rY (by exact hj)]
theorem own_setL {w:World} {B e k n c t:Nat} {A:Option Addr} {xs:List Value} (h:w.ownsRow B e k (.slice A n c) n xs) (ht:t<n*k):
  ∃g,A=some ⟨g,0,none⟩/\B<=g/\w.cell? ⟨g,t,none⟩=xs[t]?/\w.frozen? ⟨g,t,none⟩=false/\ ∀u,(w.setCell ⟨g,t,none⟩ u).ownsRow B e k (.slice A n c) n (xs.set t u):=by
 rcases h.2 with⟨_,hn⟩|⟨g,cap,cur,he,hg,hc,h1,h2,h3,h4⟩
 ·subst hn;simp at ht
 injection he with e1 e2 e3
 subst e1 e3;have hb:Blk w g e cur:=hc
 refine⟨g,rfl,hg,by rw[hb.cell,<-h4,xK ht,wU],hb.frozen t,fun u=>⟨by rw[wK];exact h.1,.inr ⟨g,c,_,rfl,hg,hb.set_ t u,h1,h2,by simpa using h3, ?_⟩⟩⟩
 rw[zB,List.take_set,h4]
theorem putRow_own {α:Type} [Inhabited α] {enc:α->Value} {d:Array α} {w:World} {B e k n c g m:Nat} {xs:List Value} {os:Array Obj} (ho:w.ownsRow B e k (.slice (some ⟨g,0,none⟩) n c) n xs) (hs:d.size=n*k):
  (grow (putRow enc (Sort.ahead w m) g 0 d) os).ownsRow B e k (.slice (some ⟨g,0,none⟩) n c) n (d.toList.map enc)/\w.grownBy (grow (putRow enc (Sort.ahead w m) g 0 d) os) (some g):=by
 rcases ho.2 with⟨he,_⟩|⟨g',cap,cur,he,hg,hc,h1,h2,h3,h4⟩
 ·cases he
 injection he with e1 e2 e3
 injection e1 with e1
 injection e1 with e1
 subst e1 e3;have hlt:g<w.heap.size:=(sW.1 hc).1
 have hle:n*k<=cur.size:=by rw[h3];exact vU k h1
 refine⟨⟨by simp[hs],.inr ⟨g,c,putCells enc 0 d cur,rfl,hg, ?_,h1,h2,by simp[putCells,h3], ?_⟩⟩,⟨rfl,rfl,rfl,by simp[putRow,mapBlock,Sort.ahead],fun q hq hne=> ?_⟩⟩
 ·rw[heap_grow_old _ _ (by simpa[putRow,mapBlock,Sort.ahead] using hlt)]
  simp[putRow,mapBlock,Sort.ahead,Ah,hc,onCells]
 ·apply yZ
  intro t;by_cases ht:t<n*k
  ·rw[xK ht,wU,tu,wU]
   have hd:t<d.size:=by omega
   have hcur:t<cur.size:=by omega
   simp[putCells,hd,hcur]
  rw[vJ (by simp;omega),vJ (by simp;omega)]
 rw[heap_grow_old _ _ (by simpa[putRow,mapBlock,Sort.ahead] using hq)]
 have hne':g≠q:=fun e=>hne (by rw[e])
 simp[putRow,mapBlock,Sort.ahead,Ah,hne']
theorem flatK_list {α:Type} [Inhabited α] (enc:α->List Value) (k:Nat) (hk: ∀x,(enc x).length=k) (d:Array α):(flatK enc k d).toList=d.toList.flatMap enc:=by
 apply yZ
 intro t
 have hl:(d.toList.flatMap enc).length=d.size*k:=by rw[flat_lk (fun x _=>hk x),vH]
 by_cases ht:t<d.size*k
 ·have k0:0<k:=by
   rcases uY k with h|h
   ·subst h;simp at ht
   exact h
  have hi:t / k<d.size:=Bf (by rw[xu];exact ht)
  have hj:t % k<k:=y7 _ k0
  have e:t=t / k*k+t % k:=by have:=Nat.div_add_mod t k;rw[xu]at this;omega
  have h2:=flat_get (l:=d.toList) (f:=enc) (i:=t / k) (fun x _=>hk x) (by rw[wU,vK hi]) (t % k) hj
  rw[<-e]at h2;rw[h2,wU]
  simp only[flatK,Array.getElem?_map,Array.getElem?_range,ht,yO,vg]
  rw[xJ d (t / k) hi,xJ (enc d[t / k]) (t % k) (by rw[hk];exact hj),ay (by rw[hk];exact hj)]
 rw[vJ (by simp;omega),vJ (by omega)]
theorem rowK_own {α:Type} [Inhabited α] {enc:α->List Value} {k:Nat} (hk: ∀x,(enc x).length=k) (h1: ∀x,∀v∈enc x,v.oneCell'=true) {d:Array α} {w:World} {B e n c g:Nat} (ho:w.ownsRow B e k (.slice (some ⟨g,0,none⟩) n c) n (d.toList.flatMap enc)) (hn:d.size=n):RowK enc k w g 0 d:=by
 have hlt:g<w.heap.size:=(World.ownsRow.lt ho g rfl).2;refine⟨hk,h1,fun j hj=> ?_,hlt⟩
 rw[size_flatK,hn]at hj;obtain⟨g',he,-,hc,hf,-⟩:=own_setL ho hj
 injection he with he
 injection he with he
 subst he;rw[wL];refine⟨?_,hf⟩
 rw[hc,<-flatK_list enc k hk d,wU,vK (by rw[size_flatK,hn];exact hj),xJ _ j (by rw[size_flatK,hn];exact hj)]
 rfl
theorem swk_own {α:Type} [Inhabited α] {enc:α->List Value} {k:Nat} (hk: ∀x,(enc x).length=k) {d':Array α} {w W:World} {B e n c g:Nat} {xs:List Value} (ho:w.ownsRow B e k (.slice (some ⟨g,0,none⟩) n c) n xs) (hn:d'.size=n) (S:SWK enc k w g 0 d' W):
  W.ownsRow B e k (.slice (some ⟨g,0,none⟩) n c) n (d'.toList.flatMap enc)/\w.grownBy W (some g):=by
 obtain⟨m,os,rfl⟩:=S
 have h:=putRow_own (enc:=id) (d:=flatK enc k d') (m:=m) (os:=os) ho (by rw[size_flatK,hn])
 rw[zo,flatK_list enc k hk]at h;exact h
theorem perm_lift {α β:Type} {f:α->β} {a b:List β} (h:a.Perm b): ∀l:List α,l.map f=a-> ∃l':List α,l'.Perm l/\l'.map f=b:=by
 induction h with
 |nil=>intro l hl;exact⟨l,.refl _,hl⟩
 |cons x _ ih=>
  intro l hl;obtain⟨y,r,rfl,rfl,rfl⟩:=Bg.1 hl;obtain⟨r',h1,h2⟩:=ih r rfl
  exact⟨y :: r',h1.cons y,by rw[tV,h2]⟩
 |swap x y r=>
  intro l hl;obtain⟨u,l1,rfl,rfl,h1⟩:=Bg.1 hl;obtain⟨v,l2,rfl,rfl,rfl⟩:=Bg.1 h1
  exact⟨v :: u :: l2,.swap _ _ _,rfl⟩
 |trans _ _ ih1 ih2=>
  intro l hl;obtain⟨l1,h1,h2⟩:=ih1 l hl;obtain⟨l2,h3,h4⟩:=ih2 l1 h2
  exact⟨l2,h3.trans h1,h4⟩
structure Key {κ:Type} (le:κ->κ->Bool):Prop where
 trans: ∀a b c,le a b=true->le b c=true->le a c=true
 total: ∀a b,(le a b || le b a)=true
 anti: ∀a b,le a b=true->le b a=true->a=b
theorem key_int:Key (fun a b:Int=>decide (a<=b)):=⟨fun a b c=>by simp only[tX];omega,fun a b=>by simp only[wu,tX];omega,fun a b=>by simp only[tX];omega⟩
theorem key_str:Key (fun a b:List UInt8=>decide (a<=b)):=⟨fun a b c=>by simp only[tX];exact BZ,fun a b=>by simp only[wu,tX];exact CQ a b,fun a b=>by simp only[tX];exact Cj⟩
theorem sort_eq {α κ:Type} {le:κ->κ->Bool} (K:Key le) {key:α->κ} {l l':List α} (hd:(l.map key).Nodup) (hp:l'.Perm l) (hs:(l'.map key).Pairwise (fun a b=>le a b=true)):l'=Gr.sortBy le key l:=by
 have ht:=zU (le:=fun a b=>le (key a) (key b)) (fun a b c=>K.trans _ _ _) (fun a b=>K.total _ _) l
 refine(hp.trans (vG l _).symm).eq_of_pairwise (le:=fun a b=>le (key a) (key b)=true) (fun x y hx hy h1 h2=> ?_) (yG.1 hs) ht
 have hx:=hp.mem_iff.1 hx;have hy:=(vG l _).mem_iff.1 hy;have e:=K.anti _ _ h1 h2
 obtain⟨i,hi,rfl⟩:=uV hx;obtain⟨j,hj,rfl⟩:=uV hy
 have hij:i=j:=by
  have:=List.getElem_inj (h₀:=by simpa using hi) (h₁:=by simpa using hj) hd (i:=i) (j:=j)
  simp only[List.getElem_map]at this;exact this.1 e
 subst hij;rfl
theorem sort_pairs {β κ α:Type} {le:κ->κ->Bool} (K:Key le) {enc:α->List Value} {ka:α->κ} {kb:β->κ} {l:List (β×List Value)} {q:List ((β×List Value)×α)} (hq1:q.map Prod.fst=l) (hq2: ∀y∈q,enc y.2=y.1.2/\ka y.2=kb y.1.1)
  {d':List α} (hp:d'.Perm (q.map Prod.snd)) (hs:d'.Pairwise (fun a b=>le (ka a) (ka b)=true)) (hd:((l.map Prod.fst).map kb).Nodup): ∃l':List (β×List Value),l'.Perm l/\d'.flatMap enc=l'.flatMap Prod.snd/\l'.map Prod.fst=Gr.sortBy le kb (l.map Prod.fst):=by
 obtain⟨q',h1,h2⟩:=perm_lift hp.symm q rfl
 have hm: ∀y∈q',enc y.2=y.1.2/\ka y.2=kb y.1.1:=fun y hy=>hq2 y (h1.mem_iff.1 hy)
 have h3:(q'.map Prod.fst).Perm l:=hq1▸h1.map Prod.fst
 refine⟨q'.map Prod.fst,h3, ?_,sort_eq K hd (h3.map _) ?_⟩
 ·rw[<-h2,List.flatMap_map,List.flatMap_map]
  clear h1 h2 h3
  induction q' with
  |nil=>rfl
  |cons y r ih=>rw[uK,uK,(hm y (by simp)).1,ih (fun z hz=>hm z (by simp[hz]))]
 have e:((q'.map Prod.fst).map Prod.fst).map kb=d'.map ka:=by
  rw[<-h2,vV,vV,vV];exact xA fun y hy=>(hm y hy).2.symm
 rw[e];exact yG.2 hs
theorem lift_enc {β α κ:Type} {enc:α->List Value} {ka:α->κ} {kb:β->κ}: ∀{l:List (β×List Value)},(∀x∈l,∃e,enc e=x.2/\ka e=kb x.1)-> ∃q:List ((β×List Value)×α),q.map Prod.fst=l/\ ∀y∈q,enc y.2=y.1.2/\ka y.2=kb y.1.1
 |[],_=>⟨[],rfl,by simp⟩
 |x :: r,h=>by
  obtain⟨e,h1⟩:=h x (by simp)
  obtain⟨q,h2,h3⟩:=lift_enc (l:=r) (fun y hy=>h y (uQ _ hy))
  exact⟨(x,e) :: q,by rw[tV,h2],fun y hy=>(uD.1 hy).elim (fun e=>e▸h1) (h3 y)⟩
theorem row_enc {β α:Type} {enc:α->List Value}: ∀{q:List ((β×List Value)×α)},(∀y∈q,enc y.2=y.1.2)->(q.map Prod.snd).flatMap enc=(q.map Prod.fst).flatMap Prod.snd
 |[],_=>rfl
 |y :: r,h=>by rw[tV,tV,uK,uK,h y (by simp),row_enc (fun z hz=>h z (by simp[hz]))]
theorem Lst.pairs {α:Type} {W:World} {B size:Nat} {R:α->List Value->Prop} {A:Option Addr} {l:List α} (h:Lst W B size R A l): ∃lp:List (α×List Value),lp.map Prod.fst=l/\(∀x∈lp,R x.1 x.2/\x.2.length=size)/\Reads W B size A l.length (lp.flatMap Prod.snd):=by
 have key: ∀(m:List α) (i:Nat),(∀(j:Nat) (a:α),m[j]?=some a->l[i+j]?=some a)-> ∃lp:List (α×List Value),lp.map Prod.fst=m/\(∀x∈lp,R x.1 x.2/\x.2.length=size)/\
   ∀(j:Nat) (x:α×List Value),lp[j]?=some x-> ∃b off,A=some ⟨b,off,none⟩/\b<B/\ ∀(t:Nat) u,x.2[t]?=some u->W.cell? ⟨b,off+(i+j)*size+t,none⟩=some u:=by
  intro m
  induction m with
  |nil=>exact fun i _=>⟨[],rfl,by simp,by simp⟩
  |cons a r ih=>
   intro i hi
   obtain⟨b,off,cs,e,hlt,hr,hl,hc⟩:=h i a (by have:=hi 0 a rfl;simpa using this)
   obtain⟨lp,h1,h2,h3⟩:=ih (i+1) (fun j b hj=>by have:=hi (j+1) b (by simpa using hj);rwa [show i+1+j=i+(j+1) by omega])
   refine⟨(a,cs) :: lp,by rw[tV,h1],fun x hx=>(uD.1 hx).elim (fun e=>by rw[e];exact⟨hr,hl⟩) (h2 x),fun j x hj=> ?_⟩
   cases j with
   |zero=>
    simp only[sD,uH]at hj;subst hj;exact⟨b,off,e,hlt,fun t u hu=>hc t u hu⟩
   |succ j=>
    obtain⟨b',off',e',hlt',hc'⟩:=h3 j x (by simpa using hj)
    exact⟨b',off',e',hlt',fun t u hu=>by have:=hc' t u hu;rwa [show i+1+j=i+(j+1) by omega]at this⟩
 obtain⟨lp,h1,h2,h3⟩:=key l 0 (fun j a hj=>by simpa using hj)
 have hll:lp.length=l.length:=by rw[<-h1,sU]
 have hfl:=flat_lk (f:=Prod.snd) (l:=lp) (k:=size) (fun x hx=>(h2 x hx).2)
 refine⟨lp,h1,h2,by rw[hfl,hll],fun hp=> ?_⟩
 obtain⟨x0,hx0⟩: ∃x,lp[0]?=some x:=⟨_,ay (by omega)⟩
 obtain⟨b,off,e,hlt,-⟩:=h3 0 x0 hx0;refine⟨b,off,e,hlt,fun t u hu=> ?_⟩
 rcases uY size with h0|h0
 ·subst h0
  rw[vJ (by omega)]at hu
  cases hu
 have ht:t<lp.length*size:=by rw[<-hfl];exact(rZ.1 hu).1
 have hi:t / size<lp.length:=Bf (by rw[xu];exact ht)
 have et:t=t / size*size+t % size:=by have:=Nat.div_add_mod t size;rw[xu]at this;omega
 have h5:=flat_get (f:=Prod.snd) (l:=lp) (k:=size) (fun x hx=>(h2 x hx).2) (ay hi) (t % size) (y7 _ h0)
 rw[<-et,hu]at h5;obtain⟨b',off',e',-,hc'⟩:=h3 _ _ (ay hi);rw[e]at e';cases e'
 have:=hc' _ _ h5.symm;rw[wL,wV,<-et]at this;exact this
end Go.Proofs.YtanlehkalkafdaaGreatDoor
namespace Go.Proofs.YtanlehkalkafdaaGreatDoor
open Go.RowKit Go.Sort
abbrev Sl:=Option Addr×Nat×Nat
def slv (s:Sl):Value:=.slice s.1 s.2.1 s.2.2
abbrev EN:=Int×Sl×Sl
def encN (x:EN):List Value:=[.int .i64 x.1,slv x.2.1,slv x.2.2]
def renN:Go.Shelf.Ren:=⟨fun n=>n,fun t=>t,fun g=>g⟩
theorem layN:StbG.LayS Tryz.prog renN 3:=by
 constructor<;>first|kernel_rfl|(intro w;kernel_rfl)
theorem fN0:Stb.Bd Tryz.prog renN 252 Tryz.f252:=⟨Tryz.f252.name,Tryz.f252.targs,Tryz.f252.params,Tryz.f252.resultTypes,by decide,Tryz.func252.trans (by kernel_rfl)⟩
theorem fN1:Stb.Bd Tryz.prog renN 220 Tryz.f220:=⟨Tryz.f220.name,Tryz.f220.targs,Tryz.f220.params,Tryz.f220.resultTypes,by decide,Tryz.func220.trans (by kernel_rfl)⟩
theorem fN2:Stb.Bd Tryz.prog renN 175 Tryz.f175:=⟨Tryz.f175.name,Tryz.f175.targs,Tryz.f175.params,Tryz.f175.resultTypes,by decide,Tryz.func175.trans (by kernel_rfl)⟩
theorem fN3:Bears Tryz.prog (renN.f 174) (SlBodyF.n20 (StbG.ren renN)):=⟨Tryz.f174.name,by decide,Tryz.func174.trans (by kernel_rfl)⟩
theorem fN4:Stb.Bd Tryz.prog renN 125 Tryz.f125:=⟨Tryz.f125.name,Tryz.f125.targs,Tryz.f125.params,Tryz.f125.resultTypes,by decide,Tryz.func125.trans (by kernel_rfl)⟩
theorem fN5:Stb.Bd Tryz.prog renN 76 Tryz.f76:=⟨Tryz.f76.name,Tryz.f76.targs,Tryz.f76.params,Tryz.f76.resultTypes,by decide,Tryz.func76.trans (by kernel_rfl)⟩
theorem cmpN (x y:EN) (W:World):Calls Tryz.prog 77 (#[.agg (encN x).toArray,.agg (encN y).toArray]++#[]) W fun e w'=>e=.returned (.int .i64 (Lib.compareInt x.1 y.1))/\ ∃q os',w'=grow (W.drewN q) os':=by
 obtain⟨xi,⟨xa,xn,xc⟩,ya,yn,yc⟩:=x;obtain⟨yi,⟨za,zn,zc⟩,va,vn,vc⟩:=y
 simp only[encN,slv,xX,tC,uG,tY];have hc:=fun V=>Tryz.cmp_Compare_int xi yi V
 have HC:=ah hc;clear hc;go_enter Tryz.func77,Tryz.ntmps77;go_wp2_with fail
 refine(HC.out _).mono ?_;rintro e w' ⟨rfl,rfl⟩;go_wp2;go_ret
 exact⟨rfl,0,#[_,_],by rw[alloc_eq_grow,alloc_eq_grow,grow_grow];rfl⟩
def leI {α:Type} (x y:Int×α):Bool:=decide (x.1<=y.1)
theorem totI {α:Type}:Stb.Tot (leI (α:=α)):=⟨fun h1 h2=>by unfold leI at*;simp only[tX] at*;omega,fun h=>by unfold leI at*;simp only[tX,xP] at*;omega⟩
theorem cfI {α:Type} (x y:Int×α):ltOf (fun x y:Int×α=>Lib.compareInt x.1 y.1) x y= !leI y x:=by
 unfold ltOf leI Lib.compareInt
 rcases Int.lt_trichotomy x.1 y.1 with h|h|h
 ·have h2: ¬y.1<=x.1:=by omega
  simp[h]
 ·simp[h]
 have h2: ¬x.1<y.1:=by omega
 have h3:y.1<=x.1:=by omega
 simp[h,h2,h3]
theorem sortN {g cap n:Nat} {d:Array EN} {w:World} (R:RowK encN 3 w g 0 d) (hn:d.size=n) (hsz:n<=1073741824):
  Calls Tryz.prog 76 #[.slice (some ⟨g,0,none⟩) n cap,.func (.func 77) #[] #[]] w fun e w'=>e=.returned (.tuple #[])/\ ∃d',d'.size=n/\SWK encN 3 w g 0 d' w'/\Stb.Srt leI d'.toList/\d'.toList.Perm d.toList:=
 StbG.sortStable layN fN0 fN1 fN2 fN3 fN4 fN5 totI cfI (enters_of Tryz.func77 (by kernel_rfl) rfl) (fun m os dk _ x y=>cmpN x y _) R hn (by omega)
theorem sortN_none (p:Option Addr) (cap:Nat) (fv:Value) (w:World):Calls Tryz.prog 76 #[.slice p 0 cap,fv] w fun e w'=>e=.returned (.tuple #[])/\w'=w:=StbG.sortStable_none layN fN3 fN4 fN5 p cap fv w
abbrev ER:=Int×List UInt8×Int×Int×Sl
def encR (x:ER):List Value:=[.int .i64 x.1,ST x.2.1,.int .i64 x.2.2.1,.int .i64 x.2.2.2.1,slv x.2.2.2.2]
def renR:Go.Shelf.Ren:=⟨fun n=>if n=252 then 253 else if n=220 then 221 else if n=175 then 177 else if n=174 then 176 else if n=125 then 127 else if n=76 then 79 else n,fun t=>if t=48 then 55 else if t=22 then 23 else if t=136 then 138 else t,fun g=>g⟩
theorem layR:StbG.LayS Tryz.prog renR 5:=by
 constructor<;>first|kernel_rfl|(intro w;kernel_rfl)
theorem fR0:Stb.Bd Tryz.prog renR 252 Tryz.f252:=⟨Tryz.f253.name,Tryz.f253.targs,Tryz.f253.params,Tryz.f253.resultTypes,by decide,Tryz.func253.trans (by kernel_rfl)⟩
theorem fR1:Stb.Bd Tryz.prog renR 220 Tryz.f220:=⟨Tryz.f221.name,Tryz.f221.targs,Tryz.f221.params,Tryz.f221.resultTypes,by decide,Tryz.func221.trans (by kernel_rfl)⟩
theorem fR2:Stb.Bd Tryz.prog renR 175 Tryz.f175:=⟨Tryz.f177.name,Tryz.f177.targs,Tryz.f177.params,Tryz.f177.resultTypes,by decide,Tryz.func177.trans (by kernel_rfl)⟩
theorem fR3:Bears Tryz.prog (renR.f 174) (SlBodyF.n20 (StbG.ren renR)):=⟨Tryz.f176.name,by decide,Tryz.func176.trans (by kernel_rfl)⟩
theorem fR4:Stb.Bd Tryz.prog renR 125 Tryz.f125:=⟨Tryz.f127.name,Tryz.f127.targs,Tryz.f127.params,Tryz.f127.resultTypes,by decide,Tryz.func127.trans (by kernel_rfl)⟩
theorem fR5:Stb.Bd Tryz.prog renR 76 Tryz.f76:=⟨Tryz.f79.name,Tryz.f79.targs,Tryz.f79.params,Tryz.f79.resultTypes,by decide,Tryz.func79.trans (by kernel_rfl)⟩
theorem cmpR (x y:ER) (W:World):Calls Tryz.prog 80 (#[.agg (encR x).toArray,.agg (encR y).toArray]++#[]) W fun e w'=>e=.returned (.int .i64 (Lib.compareInt x.1 y.1))/\ ∃q os',w'=grow (W.drewN q) os':=by
 obtain⟨xi,xt,xs,xd,xa,xn,xc⟩:=x;obtain⟨yi,yt,ys,yd,ya,yn,yc⟩:=y
 simp only[encR,slv,ST,xX,tC,uG,tY];have hc:=fun V=>Tryz.cmp_Compare_int xi yi V
 have HC:=ah hc;clear hc;obtain⟨z1,hz1⟩:=aj (⟨xt.toArray⟩:ByteArray)
 obtain⟨z2,hz2⟩:=aj (⟨yt.toArray⟩:ByteArray);rw[hz1,hz2];clear hz1 hz2
 go_enter Tryz.func80,Tryz.ntmps80;go_wp2_with fail;refine(HC.out _).mono ?_
 rintro e w' ⟨rfl,rfl⟩;go_wp2;go_ret
 exact⟨rfl,0,#[_,_],by rw[alloc_eq_grow,alloc_eq_grow,grow_grow];rfl⟩
theorem sortR {g cap n:Nat} {d:Array ER} {w:World} (R:RowK encR 5 w g 0 d) (hn:d.size=n) (hsz:n<=1073741824):
  Calls Tryz.prog 79 #[.slice (some ⟨g,0,none⟩) n cap,.func (.func 80) #[] #[]] w fun e w'=>e=.returned (.tuple #[])/\ ∃d',d'.size=n/\SWK encR 5 w g 0 d' w'/\Stb.Srt leI d'.toList/\d'.toList.Perm d.toList:=
 StbG.sortStable layR fR0 fR1 fR2 fR3 fR4 fR5 totI cfI (enters_of Tryz.func80 (by kernel_rfl) rfl) (fun m os dk _ x y=>cmpR x y _) R hn (by omega)
theorem sortR_none (p:Option Addr) (cap:Nat) (fv:Value) (w:World):Calls Tryz.prog 79 #[.slice p 0 cap,fv] w fun e w'=>e=.returned (.tuple #[])/\w'=w:=StbG.sortStable_none layR fR3 fR4 fR5 p cap fv w
abbrev EP:=List UInt8×Int×Int×List UInt8×Sl×Sl
def encP (x:EP):List Value:=[ST x.1,.int .i64 x.2.1,.int .i64 x.2.2.1,ST x.2.2.2.1,slv x.2.2.2.2.1,slv x.2.2.2.2.2]
def renP:Go.Shelf.Ren:=⟨fun n=>if n=252 then 264 else if n=220 then 251 else if n=175 then 218 else if n=174 then 217 else if n=125 then 172 else if n=76 then 122 else n,fun t=>if t=48 then 53 else if t=22 then 46 else if t=136 then 176 else t,fun g=>g⟩
theorem layP:StbG.LayS Tryz.prog renP 6:=by
 constructor<;>first|kernel_rfl|(intro w;kernel_rfl)
theorem fP0:Stb.Bd Tryz.prog renP 252 Tryz.f252:=⟨Tryz.f264.name,Tryz.f264.targs,Tryz.f264.params,Tryz.f264.resultTypes,by decide,Tryz.func264.trans (by kernel_rfl)⟩
theorem fP1:Stb.Bd Tryz.prog renP 220 Tryz.f220:=⟨Tryz.f251.name,Tryz.f251.targs,Tryz.f251.params,Tryz.f251.resultTypes,by decide,Tryz.func251.trans (by kernel_rfl)⟩
theorem fP2:Stb.Bd Tryz.prog renP 175 Tryz.f175:=⟨Tryz.f218.name,Tryz.f218.targs,Tryz.f218.params,Tryz.f218.resultTypes,by decide,Tryz.func218.trans (by kernel_rfl)⟩
theorem fP3:Bears Tryz.prog (renP.f 174) (SlBodyF.n20 (StbG.ren renP)):=⟨Tryz.f217.name,by decide,Tryz.func217.trans (by kernel_rfl)⟩
theorem fP4:Stb.Bd Tryz.prog renP 125 Tryz.f125:=⟨Tryz.f172.name,Tryz.f172.targs,Tryz.f172.params,Tryz.f172.resultTypes,by decide,Tryz.func172.trans (by kernel_rfl)⟩
theorem fP5:Stb.Bd Tryz.prog renP 76 Tryz.f76:=⟨Tryz.f122.name,Tryz.f122.targs,Tryz.f122.params,Tryz.f122.resultTypes,by decide,Tryz.func122.trans (by kernel_rfl)⟩
theorem cmpP (x y:EP) (W:World):Calls Tryz.prog 123 (#[.agg (encP x).toArray,.agg (encP y).toArray]++#[]) W fun e w'=>e=.returned (.int .i64 (Lib.compareBytes x.1 y.1))/\ ∃q os',w'=grow (W.drewN q) os':=by
 obtain⟨xk,xi,xj,xt,⟨xa,xn,xc⟩,xb,xm,xd⟩:=x;obtain⟨yk,yi,yj,yt,⟨ya,yn,yc⟩,yb,ym,yd⟩:=y
 simp only[encP,slv,ST,xX,tC,uG,tY]
 have hc:=fun V=>Tryz.strings_Compare ⟨xk.toArray⟩ ⟨yk.toArray⟩ V
 simp only[wR]at hc;obtain⟨r,hr⟩:=aj (Lib.compareBytes xk yk);rw[hr]at hc⊢
 obtain⟨z1,hz1⟩:=aj (⟨xt.toArray⟩:ByteArray);obtain⟨z2,hz2⟩:=aj (⟨yt.toArray⟩:ByteArray)
 obtain⟨z3,hz3⟩:=aj (⟨xk.toArray⟩:ByteArray);obtain⟨z4,hz4⟩:=aj (⟨yk.toArray⟩:ByteArray)
 rw[hz1,hz2,hz3,hz4];rw[hz3,hz4]at hc;have HC:=ah hc;clear hz1 hz2 hz3 hz4 hr hc
 go_enter Tryz.func123,Tryz.ntmps123;go_wp2_with fail;refine(HC.out _).mono ?_
 rintro e w' ⟨rfl,rfl⟩;go_wp2;go_ret
 exact⟨rfl,0,#[_,_],by rw[alloc_eq_grow,alloc_eq_grow,grow_grow];rfl⟩
theorem cmpB_lt: ∀a b:List UInt8,decide (Lib.compareBytes a b<0)=decide (a<b)
 |[],[]=>rfl
 |[],_ :: _=>by simp[Lib.compareBytes]
 |_ :: _,[]=>by simp[Lib.compareBytes]
 |x :: a,y :: b=>by
  unfold Lib.compareBytes;by_cases h:x<y
  ·simp[h,yT]
  by_cases h':y<x
  ·have hne:x≠y:=fun e=>by subst e;exact h h'
   simp[h,h',yT,hne]
  have he:x=y:=UInt8.le_antisymm (UInt8.not_lt.1 h') (UInt8.not_lt.1 h);subst he
  have hi: ¬x<x:=h;rw[rU hi,rU hi,cmpB_lt a b];simp[yT,hi]
def leP (x y:EP):Bool:=decide (x.1<=y.1)
theorem totP:Stb.Tot leP:=⟨fun h1 h2=>key_str.trans _ _ _ h1 h2,fun {a b} h=>by have:=key_str.total a.1 b.1;unfold leP at*;rw[h]at this;simpa using this⟩
theorem cfP (x y:EP):ltOf (fun x y:EP=>Lib.compareBytes x.1 y.1) x y= !leP y x:=by
 unfold ltOf leP;rw[cmpB_lt];by_cases h:x.1<y.1
 ·have h2: ¬y.1<=x.1:=BQ.2 h
  simp[h,h2]
 have h2:y.1<=x.1:=List.not_lt.1 h;simp[h,h2]
theorem sortP {g cap n:Nat} {d:Array EP} {w:World} (R:RowK encP 6 w g 0 d) (hn:d.size=n) (hsz:n<=1073741824):
  Calls Tryz.prog 122 #[.slice (some ⟨g,0,none⟩) n cap,.func (.func 123) #[] #[]] w fun e w'=>e=.returned (.tuple #[])/\ ∃d',d'.size=n/\SWK encP 6 w g 0 d' w'/\Stb.Srt leP d'.toList/\d'.toList.Perm d.toList:=
 StbG.sortStable layP fP0 fP1 fP2 fP3 fP4 fP5 totP cfP (enters_of Tryz.func123 (by kernel_rfl) rfl) (fun m os dk _ x y=>cmpP x y _) R hn (by omega)
theorem sortP_none (p:Option Addr) (cap:Nat) (fv:Value) (w:World):Calls Tryz.prog 122 #[.slice p 0 cap,fv] w fun e w'=>e=.returned (.tuple #[])/\w'=w:=StbG.sortStable_none layP fP3 fP4 fP5 p cap fv w
end Go.Proofs.YtanlehkalkafdaaGreatDoor
