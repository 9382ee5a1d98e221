/- Contracts and plain laws,part 23. -/
import Derived.Test.YtkdakckjafomhaaGreatDoorUW22
set_option maxHeartbeats 64000000
set_option maxRecDepth 1000000
set_option linter.all false
namespace Go.Proofs.YtkdakckjafomhaaGreatDoor.pz
open Go Go.Shelf Go.RowKit Go.Lib Go.Sort Go.Proofs Go.Proofs.YtkdakckjafomhaaGreatDoor.fK
variable {P:Program} {ρ:Ren} {α:Type} [Inhabited α]
theorem stable {k:Nat} (L:uj P ρ k) (FG:Bd P ρ 219 Tryz.f219) (FR:Bd P ρ 180 Tryz.f180) (FS:Bd P ρ 136 Tryz.f136)
  (FI:Bears P (ρ.f 135) (SlBodyF.n20 (ren ρ))) (FT:Bd P ρ 85 Tryz.f85)
  {le:α->α->Bool} (hT:Tot le) {enc:α->List Value} {cf:α->α->Int} (hcf: ∀x y,ltOf cf x y= !le y x) {g:Nat} {cb:Array Value} (eg: ∀args w,(callFunc g args).run P w=.ok (.enter g args) w) {blk off cap n:Nat} {d0 d:Array α} {w0 w:World} (hC:CmpLays P g cb enc k cf blk off n w0) (R:RowK enc k w0 blk off d0) (hn:d0.size=n) (hs:d.size=n) (S:SWK enc k w0 blk off d w) (hsz:n<1152921504606846976):
  Calls P (ρ.f 85) #[.slice (some ⟨blk,off,none⟩) n cap,.int .i64 n,.func (.func g) #[] cb] w fun e w'=>e=.returned (.tuple #[])/\ ∃d',d'.size=n/\SWK enc k w0 blk off d' w'/\bJ le d'.toList/\d'.toList.Perm d.toList:=by
 have mixed:=L.mixed;have t0:=L.t0;have a0:=L.a0;have z0:=L.z0;have v0:=L.v0;have t3:=L.t3;have a3:=L.a3;have z3:=L.z3;have v3:=L.v3;have t4:=L.t4;have a4:=L.a4;have z4:=L.z4;have v4:=L.v4;have t22:=L.t22;have a22:=L.a22;have z22:=L.z22;have v22:=L.v22;have t25:=L.t25;have a25:=L.a25;have z25:=L.z25;have v25:=L.v25
 have eI: ∀args w,(callFunc (ρ.f 135) args).run P w=.ok (.enter (ρ.f 135) args) w:=FI.enters rfl
 have eS: ∀args w,(callFunc (ρ.f 136) args).run P w=.ok (.enter (ρ.f 136) args) w:=FS.enters rfl
 have S0:Aside (SWK enc k w0 blk off d w):=S;have HC:Aside _:=hC;have sO:=ah hcf
 have yg:=ah hT;have HS:=ah hs;have HN:=ah hn;have EG:=ah eg;clear hcf hT hs hn S hC
 obtain⟨nm,tg,ps,rt,-,FX⟩:=FT;simp only[Tryz.f85,afs,qy,DW,Dj,DV,jD,aeR,afX]at FX
 go_enter FX,ae8;go_wp2
 go_loopg [7,8] n (fun kx s7 s8 wr=> ∃(qa qb:Nat) (dk:Array α) (dn rs:List α),s7=.int .i64 (qa:Int)/\s8=.int .i64 (qb:Int)/\qa<=n/\n - qa<=kx/\qb<=n+20/\dk.size=n/\Aside (SWK enc k w0 blk off dk wr)/\Hid (dk.toList=dn++rs/\dn.length=qa/\Ch le 20 dn/\(dn++rs).Perm d.toList/\qb=qa+20/\ ∃q,qa=q*20))
 case atStart=>exact⟨0,20,d,[],d.toList,rfl,rfl,by omega,by omega,by omega,HS.out,S0,⟨rfl,rfl,Ch.nil 20,.refl _,rfl,0,rfl⟩⟩
 clear S0;obtain⟨qa,qb,dk,dn,rs,rfl,rfl,hq,hk,Jd,hds,S1,HD⟩:=hrel;have hd:_/\_/\_/\_/\_/\_:=HD
 have hln:=aeH List.length hd.1;rw[afS,hds,adf,hd.2.1]at hln;by_cases hb:qb<=n
 ·have Wi:(qb:Int)<=(n:Int):=by omega
  have anA:qb=qa+20:=hd.2.2.2.2.1
  obtain⟨X,rs',rfl,hX⟩: ∃X rs',rs=X++rs'/\X.length=20:=⟨rs.take 20,rs.drop 20,(aeN 20 rs).symm,by rw[aeb];omega⟩
  have hin:=insertion L FI yg.out sO.out (g:=g) (cb:=cb) EG.out (cap:=cap) (a:=qa) (b:=qb) HC.out R HN.out hds S1.out (p:=dn) (x:=X) (s:=rs') hd.1 hd.2.1 (by omega) (by omega)
  have sV:=ah hin;have pY:=ah hd;have HX:=ah hX
  have HK:=ah (show n - qb<=gk - 1/\1<=gk/\qb+20<=n+20 from⟨by omega,by omega,by omega⟩)
  clear hin hd HD hX hk hln S1 anA;go_wp2_with fail;refine sV.mono ?_
  rintro e w2 ⟨rfl,d2,X',h1,h2,h3,h4,h5⟩;have S2:Aside (SWK enc k w0 blk off d2 w2):=h2
  have H2:=ah (show d2.size=n/\d2.toList=(dn++X')++rs'/\(dn++X').length=qb/\Ch le 20 (dn++X')/\((dn++X')++rs').Perm d.toList/\ ∃q,qb=q*20 by
   obtain⟨-,g2,g3,g4,g5,q,g6⟩:=pY.out;have hl:=h5.length_eq;have hx:=HX.out
   refine⟨h1,by rw[h3];simp,by rw[adf];omega,g3.snoc (g2.trans g6) h4 (by omega), ?_,q+1,by omega⟩
   refine .trans ?_ g4;rw[aeG]
   exact(h5.append_right rs').append_left dn)
  clear h1 h2 h3 h4 h5;go_wp2
  go_roundg (gk - 1)
  case measure=>have:=HK.out;omega
  exact⟨qb,qb+20,d2,dn++X',rs',rfl,by simp,hb,HK.out.1,HK.out.2.2,H2.out.1,S2,⟨H2.out.2.1,H2.out.2.2.1,H2.out.2.2.2.1,H2.out.2.2.2.2.1,rfl,H2.out.2.2.2.2.2⟩⟩
 have Wi:(n:Int)<(qb:Int):=by omega
 have hin:=insertion L FI yg.out sO.out (g:=g) (cb:=cb) EG.out (cap:=cap) (a:=qa) (b:=n) HC.out R HN.out hds S1.out (p:=dn) (x:=rs) (s:=[]) (by rw[aey];exact hd.1) hd.2.1 (by omega) (by omega)
 have sV:=ah hin;have pY:=ah hd
 have HQ:=ah (show rs.length<=20 by have:=hd.2.2.2.2.1;omega)
 clear hin hd HD hk hln S1;go_wp2_with fail;refine sV.mono ?_
 rintro e w2 ⟨rfl,d2,X',h1,h2,h3,h4,h5⟩;have S2:Aside (SWK enc k w0 blk off d2 w2):=h2
 have H2:=ah (show d2.size=n/\Ch le 20 d2.toList/\d2.toList.Perm d.toList by
  obtain⟨-,g2,g3,g4,g5,q,g6⟩:=pY.out;rw[aey]at h3;rw[h3];have hl:=h5.length_eq
  have hx:=HQ.out
  exact⟨h1,g3.snoc (g2.trans g6) h4 (by omega),.trans (h5.append_left dn) g4⟩)
 clear h1 h2 h3 h4 h5 pY sV;go_wp2_with fail
 go_loopg [6] n (fun kx s6 wr=> ∃(bs:Nat) (dk:Array α),s6=.int .i64 (bs:Int)/\0<bs/\bs<=2*n+20/\n - bs<=kx/\dk.size=n/\Aside (SWK enc k w0 blk off dk wr)/\Hid (Ch le bs dk.toList/\dk.toList.Perm d.toList))
 case atStart=>exact⟨20,d2,rfl,by omega,by omega,by omega,H2.out.1,S2,H2.out.2⟩
 clear S2 H2;obtain⟨bs,dk,rfl,hb0,hbm,hk,hds,S1,HD⟩:=hrel
 obtain⟨gO,hgO⟩: ∃x,x=gk:=⟨_,rfl⟩;subst hgO;by_cases hbn:bs<n
 ·have Wj:(bs:Int)<(n:Int):=by omega
  obtain⟨b2,hb2⟩:=aj (2*bs);have e2:(2:Int)*(bs:Int)=(b2:Int):=by omega
  have e3:(bs:Int)*2=(b2:Int):=by omega
  have b2b:b2<4611686018427387904:=by omega
  have HB2:=ah (show b2=2*bs/\n - b2<=gO - 1/\1<=gO/\b2<=2*n+20 from⟨by omega,by omega,by omega,by omega⟩)
  have S3:Aside (SWK enc k w0 blk off dk wr):=S1;have HDS:=ah hds
  have HDK:Hid (dk.toList=[]++dk.toList/\([]:List α).length=0/\Ch le b2 ([]:List α)/\Ch le bs dk.toList/\([]++dk.toList).Perm d.toList/\b2=0+b2/\ ∃q,0=q*b2):=by
   have hd:_/\_:=HD;exact⟨rfl,rfl,Ch.nil b2,hd.1,hd.2,(afW _).symm,0,by omega⟩
  clear hb2 HD S1 hk hds;go_wp2_with fail
  go_loopg [7,8] n (fun kx s7 s8 wv=> ∃(qa qb:Nat) (dk:Array α) (dn rs:List α),s7=.int .i64 (qa:Int)/\s8=.int .i64 (qb:Int)/\qa<=n/\n - qa<=kx/\qb<=4*n+40/\dk.size=n/\Aside (SWK enc k w0 blk off dk wv)/\Hid (dk.toList=dn++rs/\dn.length=qa/\Ch le b2 dn/\Ch le bs rs/\(dn++rs).Perm d.toList/\qb=qa+b2/\ ∃q,qa=q*b2))
  case atStart=>exact⟨0,b2,dk,[],dk.toList,rfl,rfl,by omega,by omega,by omega,HDS.out,S3,HDK⟩
  clear S3 HDS HDK;obtain⟨qa,qb,dk,dn,rs,rfl,rfl,hq,hk,Jd,hds,S1,HD⟩:=hrel
  have hd:_/\_/\_/\_/\_/\_/\_:=HD;have hln:=aeH List.length hd.1;rw[afS,hds,adf,hd.2.1]at hln
  have Wn:qb=qa+b2:=hd.2.2.2.2.2.1;obtain⟨qm,hqm⟩:=aj (qa+bs)
  have em:(qa:Int)+(bs:Int)=(qm:Int):=by omega
  have bm:qm<4611686018427387904:=by omega
  by_cases hb:qb<=n
  ·have Wi:(qb:Int)<=(n:Int):=by omega
   obtain⟨X,rs',rfl,hX⟩: ∃X rs',rs=X++rs'/\X.length=bs:=⟨rs.take bs,rs.drop bs,(aeN bs rs).symm,by rw[aeb];have:=HB2.out;omega⟩
   obtain⟨Y,sZ,rfl,hY⟩: ∃Y r2,rs'=Y++r2/\Y.length=bs:=⟨rs'.take bs,rs'.drop bs,(aeN bs rs').symm,by rw[aeb];have:=HB2.out;rw[adf]at hln;omega⟩
   have hcx:Ch le bs (X ++(Y++sZ)):=hd.2.2.2.1
   have LW:bJ le X:=by have:=hcx.head;rwa [<-hX,aph]at this
   have hcy:Ch le bs (Y++sZ):=by have:=hcx.tail;rwa [show(X ++(Y++sZ)).drop bs=Y++sZ by rw[<-hX,ang]]at this
   have LX:bJ le Y:=by have:=hcy.head;rwa [<-hY,aph]at this
   have hcr:Ch le bs sZ:=by have:=hcy.tail;rwa [show(Y++sZ).drop bs=sZ by rw[<-hY,ang]]at this
   have hsm:=symMerge L FG FR FS yg.out sO.out (g:=g) (cb:=cb) EG.out (cap:=cap) HC.out R HN.out (by omega) (qb - qa) qa qm qb dk wr dn X Y sZ (ac4 _) hds S1.out hd.1 hd.2.1 (by omega) (by have:=HB2.out;omega) (aeX.1 (by omega)) (aeX.1 (by omega)) LW LX
   have jE:=ah hsm;have pY:=ah hd
   have Wp:=ah (show X.length=bs/\Y.length=bs/\Ch le bs sZ from⟨hX,hY,hcr⟩)
   have HK:=ah (show n - qb<=gk - 1/\1<=gk/\qb+b2<=4*n+40 from⟨by have:=HB2.out;omega,by have:=HB2.out;omega,by have:=HB2.out;omega⟩)
   have HQM:=ah hqm;obtain⟨q3,hq3⟩:=aj (qb+b2)
   have eqb:(qb:Int)+(b2:Int)=(q3:Int):=by omega
   have bqb:q3<4611686018427387904:=by omega
   have HQ3:=ah hq3;clear hsm hd HD hX hY hcx LW hcy LX hcr hk hln S1 Wn hqm hq3
   go_wp2_with fail;refine jE.mono ?_;rintro e w3 ⟨rfl,d3,C,h1,h2,h3,h4,h5⟩
   have S4:Aside (SWK enc k w0 blk off d3 w3):=h2
   have H3:=ah (show d3.size=n/\d3.toList=(dn++C)++sZ/\(dn++C).length=qb/\Ch le b2 (dn++C)/\Ch le bs sZ/\((dn++C)++sZ).Perm d.toList/\ ∃q,qb=q*b2 by
    obtain⟨-,g2,g3,-,g4,g5,q,g6⟩:=pY.out;have hl:=h5.length_eq;rw[adf]at hl
    have hx:=Wp.out;have hb:=HB2.out.1
    refine⟨h1,by rw[h3];simp,by rw[adf];omega,g3.snoc (g2.trans g6) h4 (by omega),hx.2.2, ?_,q+1,by rw[anj];omega⟩
    refine .trans ?_ g4;rw[aeG,<-aeG X]
    exact(h5.append_right sZ).append_left dn)
   clear h1 h2 h3 h4 h5;go_wp2
   go_roundg (gk - 1)
   case measure=>have:=HK.out;omega
   exact⟨qb,q3,d3,dn++C,sZ,rfl,rfl,hb,HK.out.1,by rw[<-HQ3.out];exact HK.out.2.2,H3.out.1,S4,⟨H3.out.2.1,H3.out.2.2.1,H3.out.2.2.2.1,H3.out.2.2.2.2.1,H3.out.2.2.2.2.2.1,HQ3.symm,H3.out.2.2.2.2.2.2⟩⟩
  have Wi:(n:Int)<(qb:Int):=by omega
  by_cases hm:qm<n
  ·have Ja:(qm:Int)<(n:Int):=by omega
   obtain⟨X,Y,rfl,hX⟩: ∃X rs',rs=X++rs'/\X.length=bs:=⟨rs.take bs,rs.drop bs,(aeN bs rs).symm,by rw[aeb];have:=HB2.out;omega⟩
   rw[adf]at hln;have hcx:Ch le bs (X++Y):=hd.2.2.2.1
   have LW:bJ le X:=by have:=hcx.head;rwa [<-hX,aph]at this
   have hcy:Ch le bs Y:=by have:=hcx.tail;rwa [show(X++Y).drop bs=Y by rw[<-hX,ang]]at this
   have LX:bJ le Y:=hcy.all (by have:=HB2.out;omega)
   have hsm:=symMerge L FG FR FS yg.out sO.out (g:=g) (cb:=cb) EG.out (cap:=cap) HC.out R HN.out (by omega) (n - qa) qa qm n dk wr dn X Y [] (ac4 _) hds S1.out (by rw[aey];exact hd.1) hd.2.1 (by omega) (by omega) (aeX.1 (by omega)) (aeX.1 (by omega)) LW LX
   have jE:=ah hsm;have pY:=ah hd
   have Wp:=ah (show X.length+Y.length<=b2 by have:=HB2.out;omega)
   clear hsm hd HD hX hcx LW hcy LX hk hln S1 Wn hqm hm;go_wp2_with fail;refine jE.mono ?_
   rintro e w3 ⟨rfl,d3,C,h1,h2,h3,h4,h5⟩;have S4:Aside (SWK enc k w0 blk off d3 w3):=h2
   have H3:=ah (show d3.size=n/\Ch le b2 d3.toList/\d3.toList.Perm d.toList by
    obtain⟨-,g2,g3,-,g4,g5,q,g6⟩:=pY.out;have hl:=h5.length_eq;rw[adf]at hl
    rw[aey]at h3;rw[h3]
    exact⟨h1,g3.snoc (g2.trans g6) h4 (by rw[hl];exact Wp.out),.trans (h5.append_left dn) g4⟩)
   clear h1 h2 h3 h4 h5;go_wp2
   go_roundg (gO - 1)
   case measure=>have:=HB2.out;omega
   exact⟨b2,d3,rfl,by have:=HB2.out;omega,HB2.out.2.2.2,HB2.out.2.1,H3.out.1,S4,H3.out.2⟩
  have Ja:(n:Int)<=(qm:Int):=by omega
  have hsr:bJ le rs:=hd.2.2.2.1.all (by omega)
  have H3:=ah (show dk.size=n/\Ch le b2 dk.toList/\dk.toList.Perm d.toList by
   obtain⟨g1,g2,g3,-,g4,g5,q,g6⟩:=hd;rw[g1]
   exact⟨hds,g3.snoc (g2.trans g6) hsr (by have:=HB2.out;omega),g4⟩)
  have S4:Aside (SWK enc k w0 blk off dk wr):=S1;clear hd HD hsr hk hln S1 Wn hqm hm
  go_wp2
  go_roundg (gO - 1)
  case measure=>have:=HB2.out;omega
  exact⟨b2,dk,rfl,by have:=HB2.out;omega,HB2.out.2.2.2,HB2.out.2.1,H3.out.1,S4,H3.out.2⟩
 have Wj:(n:Int)<=(bs:Int):=by omega
 have hd:_/\_:=HD
 have H3:=ah (show bJ le dk.toList/\dk.toList.Perm d.toList from⟨hd.1.all (by rw[afS];omega),hd.2⟩)
 clear hd HD;go_wp2
 go_end0
 exact⟨rfl,dk,hds,S1.out,H3.out⟩
theorem UH {k:Nat} (L:uj P ρ k) (FG:Bd P ρ 219 Tryz.f219) (FR:Bd P ρ 180 Tryz.f180) (FS:Bd P ρ 136 Tryz.f136)
  (FI:Bears P (ρ.f 135) (SlBodyF.n20 (ren ρ))) (FT:Bd P ρ 85 Tryz.f85) (FW:Bd P ρ 38 Tryz.f38)
  {le:α->α->Bool} (hT:Tot le) {enc:α->List Value} {cf:α->α->Int} (hcf: ∀x y,ltOf cf x y= !le y x) {g:Nat} {cb:Array Value} (eg: ∀args w,(callFunc g args).run P w=.ok (.enter g args) w) {blk off cap n:Nat} {d:Array α} {w:World} (hC:CmpLays P g cb enc k cf blk off n w) (R:RowK enc k w blk off d) (hn:d.size=n) (hsz:n<1152921504606846976):
  Calls P (ρ.f 38) #[.slice (some ⟨blk,off,none⟩) n cap,.func (.func g) #[] cb] w fun e w'=>e=.returned (.tuple #[])/\ ∃d',d'.size=n/\SWK enc k w blk off d' w'/\bJ le d'.toList/\d'.toList.Perm d.toList:=by
 have mixed:=L.mixed;have t0:=L.t0;have a0:=L.a0;have z0:=L.z0;have v0:=L.v0;have t3:=L.t3;have a3:=L.a3;have z3:=L.z3;have v3:=L.v3;have t22:=L.t22;have a22:=L.a22;have z22:=L.z22;have v22:=L.v22;have t25:=L.t25;have a25:=L.a25;have z25:=L.z25;have v25:=L.v25
 have eT: ∀args w,(callFunc (ρ.f 85) args).run P w=.ok (.enter (ρ.f 85) args) w:=FT.enters rfl
 have HT:=ah (stable L FG FR FS FI FT hT hcf (cap:=cap) eg hC R hn hn (SWK.start R.hH) hsz)
 clear hT hcf eg hC hn R;obtain⟨nm,tg,ps,rt,-,FX⟩:=FW
 simp only[Tryz.f38,afs,qy,DW,Dj,DV,jD,aeR,afX]at FX;go_enter FX,ae8;go_wp2_with fail
 refine HT.mono ?_;rintro e w' ⟨rfl,d',h1,h2,h3,h4⟩
 have H:=ah (And.intro h1 (And.intro h2 (And.intro h3 h4)));clear h1 h2 h3 h4;go_wp2
 go_end0
 exact⟨rfl,d',H.out⟩
theorem aj1 (L:SlLaysF0.n20 P ρ) (p:Option Addr) (cap:Nat) (fv:Value) (w:World):Calls P (ρ.f 20) #[.slice p 0 cap,.int .i64 0,.int .i64 0,fv] w fun e w'=>e=.returned (.tuple #[])/\w'=w:=by
 have mixed:=L.mixed;have t0:=L.t0;have a0:=L.a0;have z0:=L.z0;have v0:=L.v0;have t3:=L.t3;have a3:=L.a3;have z3:=L.z3;have v3:=L.v3;have t4:=L.t4;have a4:=L.a4;have z4:=L.z4;have v4:=L.v4;have t22:=L.t22;have a22:=L.a22;have z22:=L.z22;have v22:=L.v22;have t25:=L.t25;have a25:=L.a25;have z25:=L.z25;have v25:=L.v25
 obtain⟨_,_,FG⟩:=L.f20;go_enter FG,SlBodyF.n20_ntmps ρ;go_wp2;refine wp_loop_rounds 1 ?_
 rw[rounds_succ];go_wp2
 go_end0
 exact⟨rfl,rfl⟩
theorem aj2 {k:Nat} (L:uj P ρ k) (FI:Bears P (ρ.f 135) (SlBodyF.n20 (ren ρ))) (FT:Bd P ρ 85 Tryz.f85) (p:Option Addr) (cap:Nat) (fv:Value) (w:World):
  Calls P (ρ.f 85) #[.slice p 0 cap,.int .i64 0,fv] w fun e w'=>e=.returned (.tuple #[])/\w'=w:=by
 have mixed:=L.mixed;have t0:=L.t0;have a0:=L.a0;have z0:=L.z0;have v0:=L.v0;have t3:=L.t3;have a3:=L.a3;have z3:=L.z3;have v3:=L.v3;have t4:=L.t4;have a4:=L.a4;have z4:=L.z4;have v4:=L.v4;have t22:=L.t22;have a22:=L.a22;have z22:=L.z22;have v22:=L.v22;have t25:=L.t25;have a25:=L.a25;have z25:=L.z25;have v25:=L.v25
 have eI: ∀args w,(callFunc (ρ.f 135) args).run P w=.ok (.enter (ρ.f 135) args) w:=FI.enters rfl
 have hi:=fun W=>aj1 (L.ins FI) p cap fv W
 have HI:=ah hi;clear hi;obtain⟨nm,tg,ps,rt,-,FX⟩:=FT
 simp only[Tryz.f85,afs,qy,DW,Dj,DV,jD,aeR,afX]at FX;go_enter FX,ae8;go_wp2
 refine wp_loop_rounds 1 ?_;rw[rounds_succ];go_wp2_with fail;refine(HI.out _).mono ?_
 rintro e w' ⟨rfl,rfl⟩;go_wp2;refine wp_loop_rounds 1 ?_;rw[rounds_succ];go_wp2
 go_end0
 exact⟨rfl,rfl⟩
theorem UJ {k:Nat} (L:uj P ρ k) (FI:Bears P (ρ.f 135) (SlBodyF.n20 (ren ρ))) (FT:Bd P ρ 85 Tryz.f85) (FW:Bd P ρ 38 Tryz.f38) (p:Option Addr) (cap:Nat) (fv:Value) (w:World):
  Calls P (ρ.f 38) #[.slice p 0 cap,fv] w fun e w'=>e=.returned (.tuple #[])/\w'=w:=by
 have mixed:=L.mixed;have t0:=L.t0;have a0:=L.a0;have z0:=L.z0;have v0:=L.v0;have t3:=L.t3;have a3:=L.a3;have z3:=L.z3;have v3:=L.v3;have t4:=L.t4;have a4:=L.a4;have z4:=L.z4;have v4:=L.v4;have t22:=L.t22;have a22:=L.a22;have z22:=L.z22;have v22:=L.v22;have t25:=L.t25;have a25:=L.a25;have z25:=L.z25;have v25:=L.v25
 have eT: ∀args w,(callFunc (ρ.f 85) args).run P w=.ok (.enter (ρ.f 85) args) w:=FT.enters rfl
 have HT:=ah (fun W=>aj2 L FI FT p cap fv W)
 obtain⟨nm,tg,ps,rt,-,FX⟩:=FW;simp only[Tryz.f38,afs,qy,DW,Dj,DV,jD,aeR,afX]at FX
 go_enter FX,ae8;go_wp2_with fail;refine(HT.out _).mono ?_;rintro e w' ⟨rfl,rfl⟩;go_wp2
 go_end0
 exact⟨rfl,rfl⟩
end Go.Proofs.YtkdakckjafomhaaGreatDoor.pz
namespace Go.Proofs.YtkdakckjafomhaaGreatDoor
open Go.RowKit Go.Sort Go.Proofs.YtkdakckjafomhaaGreatDoor.fK
theorem JY {α:Type} {f:α->List Value} {k:Nat}: ∀{l:List α},(∀x∈l,(f x).length=k)->(l.flatMap f).length=l.length*k
 |[],_=>by simp
 |a :: r,h=>by rw[ae2,adf,h a (by simp),JY (fun x hx=>h x (by simp[hx])),adQ,anj,anc]
theorem flat_get {α:Type} {f:α->List Value} {k:Nat}: ∀{l:List α} {i:Nat} {a:α},(∀x∈l,(f x).length=k)->l[i]?=some a-> ∀j,j<k->(l.flatMap f)[i*k+j]?=(f a)[j]?
 |[],i,a,_,h,_,_=>by simp at h
 |x :: r,0,a,hf,h,j,hj=>by
  simp only[adn,aeK]at h;subst h;rw[ae2,anv,afW,aeZ (by rw[hf x (by simp)];exact hj)]
 |x :: r,i+1,a,hf,h,j,hj=>by
  have hx:=hf x (by simp)
  rw[ae2,ae5 (by rw[hx,anj];omega),hx,show(i+1)*k+j - k=i*k+j by rw[anj];omega]
  exact flat_get (fun y hy=>hf y (by simp[hy])) (by simpa using h) j hj
theorem aj3 {β:Type} {l1 l2:List (β×List Value)} {x:β} {cs:List Value} {k j:Nat} (h: ∀y∈l1,y.2.length=k) (hj:j<cs.length) (u:Value):
  ((l1 ++(x,cs) :: l2).flatMap Prod.snd).set (l1.length*k+j) u=(l1 ++(x,cs.set j u) :: l2).flatMap Prod.snd:=by
 have hl:=JY (f:=Prod.snd) h
 rw[afG,afG,ae2,ae2,List.set_append,ade (by omega),hl,arl,List.set_append,adk (by exact hj)]
theorem Ag {w:World} {B e k n c t:Nat} {A:Option Addr} {xs:List Value} (h:w.ownsRow B e k (.slice A n c) n xs) (ht:t<n*k):
  ∃g,A=some ⟨g,0,none⟩/\B<=g/\w.cell? ⟨g,t,none⟩=xs[t]?/\w.frozen? ⟨g,t,none⟩=false/\ ∀u,(w.setCell ⟨g,t,none⟩ u).ownsRow B e k (.slice A n c) n (xs.set t u):=by
 rcases h.2 with⟨_,hn⟩|⟨g,cap,cur,he,hg,hc,h1,h2,h3,h4⟩
 ·subst hn;simp at ht
 injection he with e1 e2 e3
 subst e1 e3;have hb:au w g e cur:=hc
 refine⟨g,rfl,hg,by rw[hb.cell,<-h4,am4 ht,anp],hb.frozen t,fun u=>⟨by rw[aru];exact h.1,.inr ⟨g,c,_,rfl,hg,hb.bP t u,h1,h2,by simpa using h3, ?_⟩⟩⟩
 rw[aqH,List.take_set,h4]
theorem abo {α:Type} [Inhabited α] {enc:α->Value} {d:Array α} {w:World} {B e k n c g m:Nat} {xs:List Value} {os:Array Obj} (ho:w.ownsRow B e k (.slice (some ⟨g,0,none⟩) n c) n xs) (hs:d.size=n*k):
  (grow (putRow enc (Sort.ahead w m) g 0 d) os).ownsRow B e k (.slice (some ⟨g,0,none⟩) n c) n (d.toList.map enc)/\w.grownBy (grow (putRow enc (Sort.ahead w m) g 0 d) os) (some g):=by
 rcases ho.2 with⟨he,_⟩|⟨g',cap,cur,he,hg,hc,h1,h2,h3,h4⟩
 ·cases he
 injection he with e1 e2 e3
 injection e1 with e1
 injection e1 with e1
 subst e1 e3;have hlt:g<w.heap.size:=(adZ.1 hc).1
 have hle:n*k<=cur.size:=by rw[h3];exact af8 k h1
 refine⟨⟨by simp[hs],.inr ⟨g,c,putCells enc 0 d cur,rfl,hg, ?_,h1,h2,by simp[putCells,h3], ?_⟩⟩,⟨rfl,rfl,rfl,by simp[putRow,mapBlock,Sort.ahead],fun q hq hne=> ?_⟩⟩
 ·rw[heap_grow_old _ _ (by simpa[putRow,mapBlock,Sort.ahead] using hlt)]
  simp[putRow,mapBlock,Sort.ahead,apB,hc,onCells]
 ·apply anV
  intro t;by_cases ht:t<n*k
  ·rw[am4 ht,anp,adX,anp]
   have hd:t<d.size:=by omega
   have hcur:t<cur.size:=by omega
   simp[putCells,hd,hcur]
  rw[afB (by simp;omega),afB (by simp;omega)]
 rw[heap_grow_old _ _ (by simpa[putRow,mapBlock,Sort.ahead] using hq)]
 have hne':g≠q:=fun e=>hne (by rw[e])
 simp[putRow,mapBlock,Sort.ahead,apB,hne']
theorem abp {α:Type} [Inhabited α] (enc:α->List Value) (k:Nat) (hk: ∀x,(enc x).length=k) (d:Array α):(flatK enc k d).toList=d.toList.flatMap enc:=by
 apply anV
 intro t;have hl:(d.toList.flatMap enc).length=d.size*k:=by rw[JY (fun x _=>hk x),afS]
 by_cases ht:t<d.size*k
 ·have k0:0<k:=by
   rcases afv k with h|h
   ·subst h;simp at ht
   exact h
  have hi:t / k<d.size:=ap9 (by rw[afV];exact ht)
  have hj:t % k<k:=arq _ k0
  have e:t=t / k*k+t % k:=by have:=Nat.div_add_mod t k;rw[afV]at this;omega
  have h2:=flat_get (l:=d.toList) (f:=enc) (i:=t / k) (fun x _=>hk x) (by rw[anp,afO hi]) (t % k) hj
  rw[<-e]at h2;rw[h2,anp]
  simp only[flatK,Array.getElem?_map,Array.getElem?_range,ht,aoH,afs]
  rw[anx d (t / k) hi,anx (enc d[t / k]) (t % k) (by rw[hk];exact hj),dF (by rw[hk];exact hj)]
 rw[afB (by simp;omega),afB (by omega)]
theorem UK {α:Type} [Inhabited α] {enc:α->List Value} {k:Nat} (hk: ∀x,(enc x).length=k) (h1: ∀x,∀v∈enc x,v.oneCell'=true) {d:Array α} {w:World} {B e n c g:Nat} (ho:w.ownsRow B e k (.slice (some ⟨g,0,none⟩) n c) n (d.toList.flatMap enc)) (hn:d.size=n):RowK enc k w g 0 d:=by
 have hlt:g<w.heap.size:=(World.ownsRow.lt ho g rfl).2;refine⟨hk,h1,fun j hj=> ?_,hlt⟩
 rw[size_flatK,hn]at hj;obtain⟨g',he,-,hc,hf,-⟩:=Ag ho hj
 injection he with he
 injection he with he
 subst he;rw[afW];refine⟨?_,hf⟩
 rw[hc,<-abp enc k hk d,anp,afO (by rw[size_flatK,hn];exact hj),anx _ j (by rw[size_flatK,hn];exact hj)]
 rfl
theorem UL {α:Type} [Inhabited α] {enc:α->List Value} {k:Nat} (hk: ∀x,(enc x).length=k) {d':Array α} {w W:World} {B e n c g:Nat} {xs:List Value} (ho:w.ownsRow B e k (.slice (some ⟨g,0,none⟩) n c) n xs) (hn:d'.size=n) (S:SWK enc k w g 0 d' W):
  W.ownsRow B e k (.slice (some ⟨g,0,none⟩) n c) n (d'.toList.flatMap enc)/\w.grownBy W (some g):=by
 obtain⟨m,os,rfl⟩:=S
 have h:=abo (enc:=id) (d:=flatK enc k d') (m:=m) (os:=os) ho (by rw[size_flatK,hn])
 rw[aq3,abp enc k hk]at h;exact h
theorem aj6 {α β:Type} {f:α->β} {a b:List β} (h:a.Perm b): ∀l:List α,l.map f=a-> ∃l':List α,l'.Perm l/\l'.map f=b:=by
 induction h with
 |nil=>intro l hl;exact⟨l,.refl _,hl⟩
 |cons x _ ih=>
  intro l hl;obtain⟨y,r,rfl,rfl,rfl⟩:=aqe.1 hl;obtain⟨r',h1,h2⟩:=ih r rfl
  exact⟨y :: r',h1.cons y,by rw[aeR,h2]⟩
 |swap x y r=>
  intro l hl;obtain⟨u,l1,rfl,rfl,h1⟩:=aqe.1 hl;obtain⟨v,l2,rfl,rfl,rfl⟩:=aqe.1 h1
  exact⟨v :: u :: l2,.swap _ _ _,rfl⟩
 |trans _ _ ih1 ih2=>
  intro l hl;obtain⟨l1,h1,h2⟩:=ih1 l hl;obtain⟨l2,h3,h4⟩:=ih2 l1 h2
  exact⟨l2,h3.trans h1,h4⟩
structure Key {κ:Type} (le:κ->κ->Bool):Prop where
 trans: ∀a b c,le a b=true->le b c=true->le a c=true
 total: ∀a b,(le a b || le b a)=true
 anti: ∀a b,le a b=true->le b a=true->a=b
theorem PX:Key (fun a b:Int=>decide (a<=b)):=⟨fun a b c=>by simp only[aei];omega,fun a b=>by simp only[af7,aei];omega,fun a b=>by simp only[aei];omega⟩
theorem Fe:Key (fun a b:List UInt8=>decide (a<=b)):=⟨fun a b c=>by simp only[aei];exact apN,fun a b=>by simp only[af7,aei];exact aq8 a b,fun a b=>by simp only[aei];exact ark⟩
theorem abq {α κ:Type} {le:κ->κ->Bool} (K:Key le) {key:α->κ} {l l':List α} (hd:(l.map key).Nodup) (hp:l'.Perm l) (hs:(l'.map key).Pairwise (fun a b=>le a b=true)):l'=Gr.jd le key l:=by
 have ht:=aoa (le:=fun a b=>le (key a) (key b)) (fun a b c=>K.trans _ _ _) (fun a b=>K.total _ _) l
 refine(hp.trans (afz l _).symm).eq_of_pairwise (le:=fun a b=>le (key a) (key b)=true) (fun x y hx hy h1 h2=> ?_) (anC.1 hs) ht
 have hx:=hp.mem_iff.1 hx;have hy:=(afz l _).mem_iff.1 hy;have e:=K.anti _ _ h1 h2
 obtain⟨i,hi,rfl⟩:=afj hx;obtain⟨j,hj,rfl⟩:=afj hy
 have hij:i=j:=by
  have:=List.getElem_inj (h₀:=by simpa using hi) (h₁:=by simpa using hj) hd (i:=i) (j:=j)
  simp only[List.getElem_map]at this;exact this.1 e
 subst hij;rfl
theorem UM {β κ α:Type} {le:κ->κ->Bool} (K:Key le) {enc:α->List Value} {ka:α->κ} {kb:β->κ} {l:List (β×List Value)} {q:List ((β×List Value)×α)} (hq1:q.map Prod.fst=l) (hq2: ∀y∈q,enc y.2=y.1.2/\ka y.2=kb y.1.1)
  {d':List α} (hp:d'.Perm (q.map Prod.snd)) (hs:d'.Pairwise (fun a b=>le (ka a) (ka b)=true)) (hd:((l.map Prod.fst).map kb).Nodup): ∃l':List (β×List Value),l'.Perm l/\d'.flatMap enc=l'.flatMap Prod.snd/\l'.map Prod.fst=Gr.jd le kb (l.map Prod.fst):=by
 obtain⟨q',h1,h2⟩:=aj6 hp.symm q rfl
 have hm: ∀y∈q',enc y.2=y.1.2/\ka y.2=kb y.1.1:=fun y hy=>hq2 y (h1.mem_iff.1 hy)
 have h3:(q'.map Prod.fst).Perm l:=hq1▸h1.map Prod.fst
 refine⟨q'.map Prod.fst,h3, ?_,abq K hd (h3.map _) ?_⟩
 ·rw[<-h2,List.flatMap_map,List.flatMap_map]
  clear h1 h2 h3
  induction q' with
  |nil=>rfl
  |cons y r ih=>rw[ae2,ae2,(hm y (by simp)).1,ih (fun z hz=>hm z (by simp[hz]))]
 have e:((q'.map Prod.fst).map Prod.fst).map kb=d'.map ka:=by
  rw[<-h2,agk,agk,agk];exact aoR fun y hy=>(hm y hy).2.symm
 rw[e];exact anC.2 hs
theorem PY {β α κ:Type} {enc:α->List Value} {ka:α->κ} {kb:β->κ}: ∀{l:List (β×List Value)},(∀x∈l,∃e,enc e=x.2/\ka e=kb x.1)-> ∃q:List ((β×List Value)×α),q.map Prod.fst=l/\ ∀y∈q,enc y.2=y.1.2/\ka y.2=kb y.1.1
 |[],_=>⟨[],rfl,by simp⟩
 |x :: r,h=>by
  obtain⟨e,h1⟩:=h x (by simp)
  obtain⟨q,h2,h3⟩:=PY (l:=r) (fun y hy=>h y (afg _ hy))
  exact⟨(x,e) :: q,by rw[aeR,h2],fun y hy=>(aeY.1 hy).elim (fun e=>e▸h1) (h3 y)⟩
theorem PZ {β α:Type} {enc:α->List Value}: ∀{q:List ((β×List Value)×α)},(∀y∈q,enc y.2=y.1.2)->(q.map Prod.snd).flatMap enc=(q.map Prod.fst).flatMap Prod.snd
 |[],_=>rfl
 |y :: r,h=>by rw[aeR,aeR,ae2,ae2,h y (by simp),PZ (fun z hz=>h z (by simp[hz]))]
theorem bY.pairs {α:Type} {W:World} {B size:Nat} {R:α->List Value->Prop} {A:Option Addr} {l:List α} (h:bY W B size R A l): ∃lp:List (α×List Value),lp.map Prod.fst=l/\(∀x∈lp,R x.1 x.2/\x.2.length=size)/\Reads W B size A l.length (lp.flatMap Prod.snd):=by
 have key: ∀(m:List α) (i:Nat),(∀(j:Nat) (a:α),m[j]?=some a->l[i+j]?=some a)-> ∃lp:List (α×List Value),lp.map Prod.fst=m/\(∀x∈lp,R x.1 x.2/\x.2.length=size)/\
   ∀(j:Nat) (x:α×List Value),lp[j]?=some x-> ∃b off,A=some ⟨b,off,none⟩/\b<B/\ ∀(t:Nat) u,x.2[t]?=some u->W.cell? ⟨b,off+(i+j)*size+t,none⟩=some u:=by
  intro m
  induction m with
  |nil=>exact fun i _=>⟨[],rfl,by simp,by simp⟩
  |cons a r ih=>
   intro i hi
   obtain⟨b,off,cs,e,hlt,hr,hl,hc⟩:=h i a (by have:=hi 0 a rfl;simpa using this)
   obtain⟨lp,h1,h2,h3⟩:=ih (i+1) (fun j b hj=>by have:=hi (j+1) b (by simpa using hj);rwa [show i+1+j=i+(j+1) by omega])
   refine⟨(a,cs) :: lp,by rw[aeR,h1],fun x hx=>(aeY.1 hx).elim (fun e=>by rw[e];exact⟨hr,hl⟩) (h2 x),fun j x hj=> ?_⟩
   cases j with
   |zero=>
    simp only[adn,aeK]at hj;subst hj;exact⟨b,off,e,hlt,fun t u hu=>hc t u hu⟩
   |succ j=>
    obtain⟨b',off',e',hlt',hc'⟩:=h3 j x (by simpa using hj)
    exact⟨b',off',e',hlt',fun t u hu=>by have:=hc' t u hu;rwa [show i+1+j=i+(j+1) by omega]at this⟩
 obtain⟨lp,h1,h2,h3⟩:=key l 0 (fun j a hj=>by simpa using hj)
 have hll:lp.length=l.length:=by rw[<-h1,adU]
 have hfl:=JY (f:=Prod.snd) (l:=lp) (k:=size) (fun x hx=>(h2 x hx).2)
 refine⟨lp,h1,h2,by rw[hfl,hll],fun hp=> ?_⟩
 obtain⟨x0,hx0⟩: ∃x,lp[0]?=some x:=⟨_,dF (by omega)⟩
 obtain⟨b,off,e,hlt,-⟩:=h3 0 x0 hx0;refine⟨b,off,e,hlt,fun t u hu=> ?_⟩
 rcases afv size with h0|h0
 ·subst h0
  rw[afB (by omega)]at hu
  cases hu
 have ht:t<lp.length*size:=by rw[<-hfl];exact(adw.1 hu).1
 have hi:t / size<lp.length:=ap9 (by rw[afV];exact ht)
 have et:t=t / size*size+t % size:=by have:=Nat.div_add_mod t size;rw[afV]at this;omega
 have h5:=flat_get (f:=Prod.snd) (l:=lp) (k:=size) (fun x hx=>(h2 x hx).2) (dF hi) (t % size) (arq _ h0)
 rw[<-et,hu]at h5;obtain⟨b',off',e',-,hc'⟩:=h3 _ _ (dF hi);rw[e]at e';cases e'
 have:=hc' _ _ h5.symm;rw[afW,amQ,<-et]at this;exact this
end Go.Proofs.YtkdakckjafomhaaGreatDoor
namespace Go.Proofs.YtkdakckjafomhaaGreatDoor
open Go.RowKit Go.Sort
abbrev Sl:=Option Addr×Nat×Nat
def DZ (s:Sl):Value:=.slice s.1 s.2.1 s.2.2
abbrev EN:=Int×Sl×Sl
def zB (x:EN):List Value:=[.int .i64 x.1,DZ x.2.1,DZ x.2.2]
def Dk:Go.Shelf.Ren:=⟨fun n=>n,fun t=>t,fun g=>g⟩
theorem abr:pz.uj Tryz.prog Dk 3:=by
 constructor<;>first|kernel_rfl|(intro w;kernel_rfl)
theorem fN0:fK.Bd Tryz.prog Dk 219 Tryz.f219:=⟨Tryz.f219.name,Tryz.f219.targs,Tryz.f219.params,Tryz.f219.resultTypes,by decide,Tryz.func219.trans (by kernel_rfl)⟩
theorem fN1:fK.Bd Tryz.prog Dk 180 Tryz.f180:=⟨Tryz.f180.name,Tryz.f180.targs,Tryz.f180.params,Tryz.f180.resultTypes,by decide,Tryz.func180.trans (by kernel_rfl)⟩
theorem fN2:fK.Bd Tryz.prog Dk 136 Tryz.f136:=⟨Tryz.f136.name,Tryz.f136.targs,Tryz.f136.params,Tryz.f136.resultTypes,by decide,Tryz.func136.trans (by kernel_rfl)⟩
theorem fN3:Bears Tryz.prog (Dk.f 135) (SlBodyF.n20 (pz.ren Dk)):=⟨Tryz.f135.name,by decide,Tryz.func135.trans (by kernel_rfl)⟩
theorem fN4:fK.Bd Tryz.prog Dk 85 Tryz.f85:=⟨Tryz.f85.name,Tryz.f85.targs,Tryz.f85.params,Tryz.f85.resultTypes,by decide,Tryz.func85.trans (by kernel_rfl)⟩
theorem fN5:fK.Bd Tryz.prog Dk 38 Tryz.f38:=⟨Tryz.f38.name,Tryz.f38.targs,Tryz.f38.params,Tryz.f38.resultTypes,by decide,Tryz.func38.trans (by kernel_rfl)⟩
theorem aj7 (x y:EN) (W:World):Calls Tryz.prog 39 (#[.agg (zB x).toArray,.agg (zB y).toArray]++#[]) W fun e w'=>e=.returned (.int .i64 (Lib.compareInt x.1 y.1))/\ ∃q os',w'=grow (W.drewN q) os':=by
 obtain⟨xi,⟨xa,xn,xc⟩,ya,yn,yc⟩:=x;obtain⟨yi,⟨za,zn,zc⟩,va,vn,vc⟩:=y
 simp only[zB,DZ,anH,aey,afq,aex];have hc:=fun V=>Tryz.cmp_Compare_int xi yi V
 have HC:=ah hc;clear hc;go_enter Tryz.func39,Tryz.ntmps39;go_wp2_with fail
 refine(HC.out _).mono ?_;rintro e w' ⟨rfl,rfl⟩;go_wp2;go_ret
 exact⟨rfl,0,#[_,_],by rw[alloc_eq_grow,alloc_eq_grow,grow_grow];rfl⟩
def leI {α:Type} (x y:Int×α):Bool:=decide (x.1<=y.1)
theorem abt {α:Type}:fK.Tot (leI (α:=α)):=⟨fun h1 h2=>by unfold leI at*;simp only[aei] at*;omega,fun h=>by unfold leI at*;simp only[aei,an1] at*;omega⟩
theorem cfI {α:Type} (x y:Int×α):ltOf (fun x y:Int×α=>Lib.compareInt x.1 y.1) x y= !leI y x:=by
 unfold ltOf leI Lib.compareInt
 rcases Int.lt_trichotomy x.1 y.1 with h|h|h
 ·have h2: ¬y.1<=x.1:=by omega
  simp[h]
 ·simp[h]
 have h2: ¬x.1<y.1:=by omega
 have h3:y.1<=x.1:=by omega
 simp[h,h2,h3]
theorem aj8 {g cap n:Nat} {d:Array EN} {w:World} (R:RowK zB 3 w g 0 d) (hn:d.size=n) (hsz:n<=1073741824):
  Calls Tryz.prog 38 #[.slice (some ⟨g,0,none⟩) n cap,.func (.func 39) #[] #[]] w fun e w'=>e=.returned (.tuple #[])/\ ∃d',d'.size=n/\SWK zB 3 w g 0 d' w'/\fK.bJ leI d'.toList/\d'.toList.Perm d.toList:=
 pz.UH abr fN0 fN1 fN2 fN3 fN4 fN5 abt cfI (enters_of Tryz.func39 (by kernel_rfl) rfl) (fun m os dk _ x y=>aj7 x y _) R hn (by omega)
theorem aj9 (p:Option Addr) (cap:Nat) (fv:Value) (w:World):Calls Tryz.prog 38 #[.slice p 0 cap,fv] w fun e w'=>e=.returned (.tuple #[])/\w'=w:=pz.UJ abr fN3 fN4 fN5 p cap fv w
abbrev ER:=Int×List UInt8×Int×Int×Sl
def encR (x:ER):List Value:=[.int .i64 x.1,ST x.2.1,.int .i64 x.2.2.1,.int .i64 x.2.2.2.1,DZ x.2.2.2.2]
def Dl:Go.Shelf.Ren:=⟨fun n=>if n=219 then 220 else if n=180 then 181 else if n=136 then 138 else if n=135 then 137 else if n=85 then 87 else if n=38 then 41 else n,fun t=>if t=42 then 44 else if t=23 then 24 else if t=95 then 97 else t,fun g=>g⟩
theorem abu:pz.uj Tryz.prog Dl 5:=by
 constructor<;>first|kernel_rfl|(intro w;kernel_rfl)
theorem fR0:fK.Bd Tryz.prog Dl 219 Tryz.f219:=⟨Tryz.f220.name,Tryz.f220.targs,Tryz.f220.params,Tryz.f220.resultTypes,by decide,Tryz.func220.trans (by kernel_rfl)⟩
theorem fR1:fK.Bd Tryz.prog Dl 180 Tryz.f180:=⟨Tryz.f181.name,Tryz.f181.targs,Tryz.f181.params,Tryz.f181.resultTypes,by decide,Tryz.func181.trans (by kernel_rfl)⟩
theorem fR2:fK.Bd Tryz.prog Dl 136 Tryz.f136:=⟨Tryz.f138.name,Tryz.f138.targs,Tryz.f138.params,Tryz.f138.resultTypes,by decide,Tryz.func138.trans (by kernel_rfl)⟩
theorem fR3:Bears Tryz.prog (Dl.f 135) (SlBodyF.n20 (pz.ren Dl)):=⟨Tryz.f137.name,by decide,Tryz.func137.trans (by kernel_rfl)⟩
theorem fR4:fK.Bd Tryz.prog Dl 85 Tryz.f85:=⟨Tryz.f87.name,Tryz.f87.targs,Tryz.f87.params,Tryz.f87.resultTypes,by decide,Tryz.func87.trans (by kernel_rfl)⟩
theorem fR5:fK.Bd Tryz.prog Dl 38 Tryz.f38:=⟨Tryz.f41.name,Tryz.f41.targs,Tryz.f41.params,Tryz.f41.resultTypes,by decide,Tryz.func41.trans (by kernel_rfl)⟩
theorem akb (x y:ER) (W:World):Calls Tryz.prog 42 (#[.agg (encR x).toArray,.agg (encR y).toArray]++#[]) W fun e w'=>e=.returned (.int .i64 (Lib.compareInt x.1 y.1))/\ ∃q os',w'=grow (W.drewN q) os':=by
 obtain⟨xi,xt,xs,xd,xa,xn,xc⟩:=x;obtain⟨yi,yt,ys,yd,ya,yn,yc⟩:=y
 simp only[encR,DZ,ST,anH,aey,afq,aex];have hc:=fun V=>Tryz.cmp_Compare_int xi yi V
 have HC:=ah hc;clear hc;obtain⟨z1,hz1⟩:=aj (⟨xt.toArray⟩:ByteArray)
 obtain⟨z2,hz2⟩:=aj (⟨yt.toArray⟩:ByteArray);rw[hz1,hz2];clear hz1 hz2
 go_enter Tryz.func42,Tryz.ntmps42;go_wp2_with fail;refine(HC.out _).mono ?_
 rintro e w' ⟨rfl,rfl⟩;go_wp2;go_ret
 exact⟨rfl,0,#[_,_],by rw[alloc_eq_grow,alloc_eq_grow,grow_grow];rfl⟩
theorem akc {g cap n:Nat} {d:Array ER} {w:World} (R:RowK encR 5 w g 0 d) (hn:d.size=n) (hsz:n<=1073741824):
  Calls Tryz.prog 41 #[.slice (some ⟨g,0,none⟩) n cap,.func (.func 42) #[] #[]] w fun e w'=>e=.returned (.tuple #[])/\ ∃d',d'.size=n/\SWK encR 5 w g 0 d' w'/\fK.bJ leI d'.toList/\d'.toList.Perm d.toList:=
 pz.UH abu fR0 fR1 fR2 fR3 fR4 fR5 abt cfI (enters_of Tryz.func42 (by kernel_rfl) rfl) (fun m os dk _ x y=>akb x y _) R hn (by omega)
theorem akd (p:Option Addr) (cap:Nat) (fv:Value) (w:World):Calls Tryz.prog 41 #[.slice p 0 cap,fv] w fun e w'=>e=.returned (.tuple #[])/\w'=w:=pz.UJ abu fR3 fR4 fR5 p cap fv w
abbrev EP:=List UInt8×Int×Int×List UInt8×Sl×Sl
def vw (x:EP):List Value:=[ST x.1,.int .i64 x.2.1,.int .i64 x.2.2.1,ST x.2.2.2.1,DZ x.2.2.2.2.1,DZ x.2.2.2.2.2]
def Dn:Go.Shelf.Ren:=⟨fun n=>if n=219 then 244 else if n=180 then 218 else if n=136 then 178 else if n=135 then 177 else if n=85 then 133 else if n=38 then 82 else n,fun t=>if t=42 then 39 else if t=23 then 40 else if t=95 then 153 else t,fun g=>g⟩
theorem abv:pz.uj Tryz.prog Dn 6:=by
 constructor<;>first|kernel_rfl|(intro w;kernel_rfl)
theorem fP0:fK.Bd Tryz.prog Dn 219 Tryz.f219:=⟨Tryz.f244.name,Tryz.f244.targs,Tryz.f244.params,Tryz.f244.resultTypes,by decide,Tryz.func244.trans (by kernel_rfl)⟩
theorem fP1:fK.Bd Tryz.prog Dn 180 Tryz.f180:=⟨Tryz.f218.name,Tryz.f218.targs,Tryz.f218.params,Tryz.f218.resultTypes,by decide,Tryz.func218.trans (by kernel_rfl)⟩
theorem fP2:fK.Bd Tryz.prog Dn 136 Tryz.f136:=⟨Tryz.f178.name,Tryz.f178.targs,Tryz.f178.params,Tryz.f178.resultTypes,by decide,Tryz.func178.trans (by kernel_rfl)⟩
theorem fP3:Bears Tryz.prog (Dn.f 135) (SlBodyF.n20 (pz.ren Dn)):=⟨Tryz.f177.name,by decide,Tryz.func177.trans (by kernel_rfl)⟩
theorem fP4:fK.Bd Tryz.prog Dn 85 Tryz.f85:=⟨Tryz.f133.name,Tryz.f133.targs,Tryz.f133.params,Tryz.f133.resultTypes,by decide,Tryz.func133.trans (by kernel_rfl)⟩
theorem fP5:fK.Bd Tryz.prog Dn 38 Tryz.f38:=⟨Tryz.f82.name,Tryz.f82.targs,Tryz.f82.params,Tryz.f82.resultTypes,by decide,Tryz.func82.trans (by kernel_rfl)⟩
theorem ake (x y:EP) (W:World):Calls Tryz.prog 83 (#[.agg (vw x).toArray,.agg (vw y).toArray]++#[]) W fun e w'=>e=.returned (.int .i64 (Lib.compareBytes x.1 y.1))/\ ∃q os',w'=grow (W.drewN q) os':=by
 obtain⟨xk,xi,xj,xt,⟨xa,xn,xc⟩,xb,xm,xd⟩:=x;obtain⟨yk,yi,yj,yt,⟨ya,yn,yc⟩,yb,ym,yd⟩:=y
 simp only[vw,DZ,ST,anH,aey,afq,aex]
 have hc:=fun V=>Tryz.strings_Compare ⟨xk.toArray⟩ ⟨yk.toArray⟩ V
 simp only[amZ]at hc;obtain⟨r,hr⟩:=aj (Lib.compareBytes xk yk);rw[hr]at hc⊢
 obtain⟨z1,hz1⟩:=aj (⟨xt.toArray⟩:ByteArray);obtain⟨z2,hz2⟩:=aj (⟨yt.toArray⟩:ByteArray)
 obtain⟨z3,hz3⟩:=aj (⟨xk.toArray⟩:ByteArray);obtain⟨z4,Wq⟩:=aj (⟨yk.toArray⟩:ByteArray)
 rw[hz1,hz2,hz3,Wq];rw[hz3,Wq]at hc;have HC:=ah hc;clear hz1 hz2 hz3 Wq hr hc
 go_enter Tryz.func83,Tryz.ntmps83;go_wp2_with fail;refine(HC.out _).mono ?_
 rintro e w' ⟨rfl,rfl⟩;go_wp2;go_ret
 exact⟨rfl,0,#[_,_],by rw[alloc_eq_grow,alloc_eq_grow,grow_grow];rfl⟩
theorem abw: ∀a b:List UInt8,decide (Lib.compareBytes a b<0)=decide (a<b)
 |[],[]=>rfl
 |[],_ :: _=>by simp[Lib.compareBytes]
 |_ :: _,[]=>by simp[Lib.compareBytes]
 |x :: a,y :: b=>by
  unfold Lib.compareBytes;by_cases h:x<y
  ·simp[h,aon]
  by_cases h':y<x
  ·have hne:x≠y:=fun e=>by subst e;exact h h'
   simp[h,h',aon,hne]
  have he:x=y:=UInt8.le_antisymm (UInt8.not_lt.1 h') (UInt8.not_lt.1 h);subst he
  have hi: ¬x<x:=h;rw[ade hi,ade hi,abw a b];simp[aon,hi]
def Je (x y:EP):Bool:=decide (x.1<=y.1)
theorem akf:fK.Tot Je:=⟨fun h1 h2=>Fe.trans _ _ _ h1 h2,fun {a b} h=>by have:=Fe.total a.1 b.1;unfold Je at*;rw[h]at this;simpa using this⟩
theorem cfP (x y:EP):ltOf (fun x y:EP=>Lib.compareBytes x.1 y.1) x y= !Je y x:=by
 unfold ltOf Je;rw[abw];by_cases h:x.1<y.1
 ·have h2: ¬y.1<=x.1:=aq0.2 h
  simp[h,h2]
 have h2:y.1<=x.1:=List.not_lt.1 h;simp[h,h2]
theorem akg {g cap n:Nat} {d:Array EP} {w:World} (R:RowK vw 6 w g 0 d) (hn:d.size=n) (hsz:n<=1073741824):
  Calls Tryz.prog 82 #[.slice (some ⟨g,0,none⟩) n cap,.func (.func 83) #[] #[]] w fun e w'=>e=.returned (.tuple #[])/\ ∃d',d'.size=n/\SWK vw 6 w g 0 d' w'/\fK.bJ Je d'.toList/\d'.toList.Perm d.toList:=
 pz.UH abv fP0 fP1 fP2 fP3 fP4 fP5 akf cfP (enters_of Tryz.func83 (by kernel_rfl) rfl) (fun m os dk _ x y=>ake x y _) R hn (by omega)
theorem akh (p:Option Addr) (cap:Nat) (fv:Value) (w:World):Calls Tryz.prog 82 #[.slice p 0 cap,fv] w fun e w'=>e=.returned (.tuple #[])/\w'=w:=pz.UJ abv fP3 fP4 fP5 p cap fv w
end Go.Proofs.YtkdakckjafomhaaGreatDoor
