/- Contracts and plain laws,part 30. -/
import Derived.Test.YtoofbflplhbpbaaGreatDoorBK17
import Derived.Test.YtoofbflplhbpbaaGreatDoorBK29
set_option maxHeartbeats 64000000
set_option maxRecDepth 1000000
set_option linter.all false
namespace Go.Proofs.YtoofbflplhbpbaaGreatDoor.StbG
open Go Go.Shelf Go.RowKit Go.Lib Go.Sort Go.Proofs Go.Proofs.YtoofbflplhbpbaaGreatDoor.Stb
variable {P:Program} {ρ:Ren} {α:Type} [Inhabited α]
theorem stable {k:Nat} (L:gY P ρ k) (FG:Bd P ρ 291 Tryz.f291) (FR:Bd P ρ 265 Tryz.f265) (FS:Bd P ρ 219 Tryz.f219)
  (FI:Bears P (ρ.f 218) (SlBodyF.n20 (ren ρ))) (FT:Bd P ρ 154 Tryz.f154)
  {le:α→α→Bool} (hT:Tot le) {enc:α→List Value} {cf:α→α→Int} (hcf: ∀x y,ltOf cf x y= !le y x) {g:Nat} {cb:Array Value} (eg: ∀args w,(callFunc g args).run P w= .ok (.enter g args) w) {blk off cap n:Nat} {d0 d:Array α} {w0 w:World} (hC:CmpLays P g cb enc k cf blk off n w0) (R:RowK enc k w0 blk off d0) (hn:d0.size=n) (hs:d.size=n) (S:SWK enc k w0 blk off d w) (hsz:n<1152921504606846976):
  Calls P (ρ.f 154) #[.slice (some ⟨blk,off,none⟩) n cap, .int .i64 n, .func (.func g) #[] cb] w fun e w'=>e= .returned (.tuple #[])∧ ∃d',d'.size=n∧SWK enc k w0 blk off d' w'∧Srt le d'.toList∧d'.toList.Perm d.toList:=by
 have mixed:=L.mixed;have t0:=L.t0;have a0:=L.a0;have z0:=L.z0;have v0:=L.v0;have t3:=L.t3;have a3:=L.a3;have z3:=L.z3;have v3:=L.v3;have t4:=L.t4;have a4:=L.a4;have z4:=L.z4;have v4:=L.v4;have t22:=L.t22;have a22:=L.a22;have z22:=L.z22;have v22:=L.v22;have t25:=L.t25;have a25:=L.a25;have z25:=L.z25;have v25:=L.v25
 have eI: ∀args w,(callFunc (ρ.f 218) args).run P w= .ok (.enter (ρ.f 218) args) w:=FI.enters rfl
 have eS: ∀args w,(callFunc (ρ.f 219) args).run P w= .ok (.enter (ρ.f 219) args) w:=FS.enters rfl
 have S0:Aside (SWK enc k w0 blk off d w):=S
 have HC:Aside _:=hC
 have HCF:=hq7 hcf
 have HTT:=hq7 hT
 have HS:=hq7 hs
 have HN:=hq7 hn
 have EG:=hq7 eg
 clear hcf hT hs hn S hC
 obtain ⟨nm,tg,ps,rt,-,FX⟩:=FT
 simp only [Tryz.f154,Option.map_some,rnC,rnR,kM,rnE,rnO,List.map_cons,List.map_nil] at FX
 go_enter FX,List.length_nil
 go_wp2
 go_loopg [7,8] n (fun kx s7 s8 wr=> ∃(qa qb:Nat) (dk:Array α) (dn rs:List α),s7= .int .i64 (qa:Int)∧s8= .int .i64 (qb:Int)∧qa≤n∧n - qa≤kx∧qb≤n+20∧dk.size=n∧Aside (SWK enc k w0 blk off dk wr)∧Hid (dk.toList=dn ++ rs∧dn.length=qa∧Ch le 20 dn∧(dn ++ rs).Perm d.toList∧qb=qa+20∧ ∃q,qa=q*20))
 case atStart=>exact ⟨0,20,d, [],d.toList,rfl,rfl,by omega,by omega,by omega,HS.out,S0,⟨rfl,rfl,Ch.nil 20, .refl _,rfl,0,rfl⟩⟩
 case round=>
  clear S0
  obtain ⟨qa,qb,dk,dn,rs,rfl,rfl,hq,hk,hqb,hds,S1,HD⟩:=hrel
  have hd:_∧_∧_∧_∧_∧_:=HD
  have hln:=congrArg List.length hd.1
  rw [Array.length_toList,hds,List.length_append,hd.2.1] at hln
  by_cases hb:qb≤n
  ·have hbI:(qb:Int)≤(n:Int):=by omega
   have hq20:qb=qa+20:=hd.2.2.2.2.1
   obtain ⟨X,rs',rfl,hX⟩: ∃X rs',rs=X ++ rs'∧X.length=20:=⟨rs.take 20,rs.drop 20,(List.take_append_drop 20 rs).symm,by rw [List.length_take];omega⟩
   have hin:=insertion L FI HTT.out HCF.out (g:=g) (cb:=cb) EG.out (cap:=cap) (a:=qa) (b:=qb) HC.out R HN.out hds S1.out (p:=dn) (x:=X) (s:=rs') hd.1 hd.2.1 (by omega) (by omega)
   have HIN:=hq7 hin
   have HDD:=hq7 hd
   have HX:=hq7 hX
   have HK:=hq7 (show n - qb≤gk - 1∧1≤gk∧qb+20≤n+20 from ⟨by omega,by omega,by omega⟩)
   clear hin hd HD hX hk hln S1 hq20
   go_wp2_with fail
   refine HIN.out.mono ?_
   rintro e w2 ⟨rfl,d2,X',h1,h2,h3,h4,h5⟩
   have S2:Aside (SWK enc k w0 blk off d2 w2):=h2
   have H2:=hq7 (show d2.size=n∧d2.toList=(dn ++ X') ++ rs'∧(dn ++ X').length=qb∧Ch le 20 (dn ++ X')∧((dn ++ X') ++ rs').Perm d.toList∧ ∃q,qb=q*20 by
    obtain ⟨-,g2,g3,g4,g5,q,g6⟩:=HDD.out
    have hl:=h5.length_eq
    have hx:=HX.out
    refine ⟨h1,by rw [h3];simp,by rw [List.length_append];omega,g3.snoc (g2.trans g6) h4 (by omega), ?_,q+1,by omega⟩
    refine .trans ?_ g4
    rw [List.append_assoc]
    exact (h5.append_right rs').append_left dn)
   clear h1 h2 h3 h4 h5
   go_wp2
   go_roundg (gk - 1)
   case measure=>have:=HK.out;omega
   case rel=>exact ⟨qb,qb+20,d2,dn ++ X',rs',rfl,by simp,hb,HK.out.1,HK.out.2.2,H2.out.1,S2,⟨H2.out.2.1,H2.out.2.2.1,H2.out.2.2.2.1,H2.out.2.2.2.2.1,rfl,H2.out.2.2.2.2.2⟩⟩
  ·have hbI:(n:Int)<(qb:Int):=by omega
   have hin:=insertion L FI HTT.out HCF.out (g:=g) (cb:=cb) EG.out (cap:=cap) (a:=qa) (b:=n) HC.out R HN.out hds S1.out (p:=dn) (x:=rs) (s:= []) (by rw [List.append_nil];exact hd.1) hd.2.1 (by omega) (by omega)
   have HIN:=hq7 hin
   have HDD:=hq7 hd
   have HQ:=hq7 (show rs.length≤20 by have:=hd.2.2.2.2.1;omega)
   clear hin hd HD hk hln S1
   go_wp2_with fail
   refine HIN.out.mono ?_
   rintro e w2 ⟨rfl,d2,X',h1,h2,h3,h4,h5⟩
   have S2:Aside (SWK enc k w0 blk off d2 w2):=h2
   have H2:=hq7 (show d2.size=n∧Ch le 20 d2.toList∧d2.toList.Perm d.toList by
    obtain ⟨-,g2,g3,g4,g5,q,g6⟩:=HDD.out
    rw [List.append_nil] at h3
    rw [h3]
    have hl:=h5.length_eq
    have hx:=HQ.out
    exact ⟨h1,g3.snoc (g2.trans g6) h4 (by omega), .trans (h5.append_left dn) g4⟩)
   clear h1 h2 h3 h4 h5 HDD HIN
   go_wp2_with fail
   go_loopg [6] n (fun kx s6 wr=> ∃(bs:Nat) (dk:Array α),s6= .int .i64 (bs:Int)∧0<bs∧bs≤2*n+20∧n - bs≤kx∧dk.size=n∧Aside (SWK enc k w0 blk off dk wr)∧Hid (Ch le bs dk.toList∧dk.toList.Perm d.toList))
   case atStart=>exact ⟨20,d2,rfl,by omega,by omega,by omega,H2.out.1,S2,H2.out.2⟩
   case round=>
    clear S2 H2
    obtain ⟨bs,dk,rfl,hb0,hbm,hk,hds,S1,HD⟩:=hrel
    obtain ⟨gO,hgO⟩: ∃x,x=gk:=⟨_,rfl⟩
    subst hgO
    by_cases hbn:bs<n
    ·have hbnI:(bs:Int)<(n:Int):=by omega
     obtain ⟨b2,hb2⟩: ∃z,2*bs=z:=⟨_,rfl⟩
     have e2:(2:Int)*(bs:Int)=(b2:Int):=by omega
     have e3:(bs:Int)*2=(b2:Int):=by omega
     have b2b:b2<4611686018427387904:=by omega
     have HB2:=hq7 (show b2=2*bs∧n - b2≤gO - 1∧1≤gO∧b2≤2*n+20 from ⟨by omega,by omega,by omega,by omega⟩)
     have S3:Aside (SWK enc k w0 blk off dk wr):=S1
     have HDS:=hq7 hds
     have HDK:Hid (dk.toList= [] ++ dk.toList∧([]:List α).length=0∧Ch le b2 ([]:List α)∧Ch le bs dk.toList∧([] ++ dk.toList).Perm d.toList∧b2=0+b2∧ ∃q,0=q*b2):=by
      have hd:_∧_:=HD
      exact ⟨rfl,rfl,Ch.nil b2,hd.1,hd.2,(Nat.zero_add _).symm,0,by omega⟩
     clear hb2 HD S1 hk hds
     go_wp2_with fail
     go_loopg [7,8] n (fun kx s7 s8 wv=> ∃(qa qb:Nat) (dk:Array α) (dn rs:List α),s7= .int .i64 (qa:Int)∧s8= .int .i64 (qb:Int)∧qa≤n∧n - qa≤kx∧qb≤4*n+40∧dk.size=n∧Aside (SWK enc k w0 blk off dk wv)∧Hid (dk.toList=dn ++ rs∧dn.length=qa∧Ch le b2 dn∧Ch le bs rs∧(dn ++ rs).Perm d.toList∧qb=qa+b2∧ ∃q,qa=q*b2))
     case atStart=>exact ⟨0,b2,dk, [],dk.toList,rfl,rfl,by omega,by omega,by omega,HDS.out,S3,HDK⟩
     case round=>
      clear S3 HDS HDK
      obtain ⟨qa,qb,dk,dn,rs,rfl,rfl,hq,hk,hqb,hds,S1,HD⟩:=hrel
      have hd:_∧_∧_∧_∧_∧_∧_:=HD
      have hln:=congrArg List.length hd.1
      rw [Array.length_toList,hds,List.length_append,hd.2.1] at hln
      have hqb2:qb=qa+b2:=hd.2.2.2.2.2.1
      obtain ⟨qm,hqm⟩: ∃z,qa+bs=z:=⟨_,rfl⟩
      have em:(qa:Int)+(bs:Int)=(qm:Int):=by omega
      have bm:qm<4611686018427387904:=by omega
      by_cases hb:qb≤n
      ·have hbI:(qb:Int)≤(n:Int):=by omega
       obtain ⟨X,rs',rfl,hX⟩: ∃X rs',rs=X ++ rs'∧X.length=bs:=⟨rs.take bs,rs.drop bs,(List.take_append_drop bs rs).symm,by rw [List.length_take];have:=HB2.out;omega⟩
       obtain ⟨Y,rs2,rfl,hY⟩: ∃Y r2,rs'=Y ++ r2∧Y.length=bs:=⟨rs'.take bs,rs'.drop bs,(List.take_append_drop bs rs').symm,by rw [List.length_take];have:=HB2.out;rw [List.length_append] at hln;omega⟩
       have hcx:Ch le bs (X ++(Y ++ rs2)):=hd.2.2.2.1
       have hsX:Srt le X:=by have:=hcx.head;rwa [←hX,List.take_left] at this
       have hcy:Ch le bs (Y ++ rs2):=by have:=hcx.tail;rwa [show (X ++(Y ++ rs2)).drop bs=Y ++ rs2 by rw [←hX,List.drop_left]] at this
       have hsY:Srt le Y:=by have:=hcy.head;rwa [←hY,List.take_left] at this
       have hcr:Ch le bs rs2:=by have:=hcy.tail;rwa [show (Y ++ rs2).drop bs=rs2 by rw [←hY,List.drop_left]] at this
       have hsm:=symMerge L FG FR FS HTT.out HCF.out (g:=g) (cb:=cb) EG.out (cap:=cap) HC.out R HN.out (by omega) (qb - qa) qa qm qb dk wr dn X Y rs2 (Nat.le_refl _) hds S1.out hd.1 hd.2.1 (by omega) (by have:=HB2.out;omega) (List.length_pos_iff.1 (by omega)) (List.length_pos_iff.1 (by omega)) hsX hsY
       have HSM:=hq7 hsm
       have HDD:=hq7 hd
       have HXY:=hq7 (show X.length=bs∧Y.length=bs∧Ch le bs rs2 from ⟨hX,hY,hcr⟩)
       have HK:=hq7 (show n - qb≤gk - 1∧1≤gk∧qb+b2≤4*n+40 from ⟨by have:=HB2.out;omega,by have:=HB2.out;omega,by have:=HB2.out;omega⟩)
       have HQM:=hq7 hqm
       obtain ⟨q3,hq3⟩: ∃z,qb+b2=z:=⟨_,rfl⟩
       have eqb:(qb:Int)+(b2:Int)=(q3:Int):=by omega
       have bqb:q3<4611686018427387904:=by omega
       have HQ3:=hq7 hq3
       clear hsm hd HD hX hY hcx hsX hcy hsY hcr hk hln S1 hqb2 hqm hq3
       go_wp2_with fail
       refine HSM.out.mono ?_
       rintro e w3 ⟨rfl,d3,C,h1,h2,h3,h4,h5⟩
       have S4:Aside (SWK enc k w0 blk off d3 w3):=h2
       have H3:=hq7 (show d3.size=n∧d3.toList=(dn ++ C) ++ rs2∧(dn ++ C).length=qb∧Ch le b2 (dn ++ C)∧Ch le bs rs2∧((dn ++ C) ++ rs2).Perm d.toList∧ ∃q,qb=q*b2 by
        obtain ⟨-,g2,g3,-,g4,g5,q,g6⟩:=HDD.out
        have hl:=h5.length_eq
        rw [List.length_append] at hl
        have hx:=HXY.out
        have hb:=HB2.out.1
        refine ⟨h1,by rw [h3];simp,by rw [List.length_append];omega,g3.snoc (g2.trans g6) h4 (by omega),hx.2.2, ?_,q+1,by rw [Nat.succ_mul];omega⟩
        refine .trans ?_ g4
        rw [List.append_assoc,←List.append_assoc X]
        exact (h5.append_right rs2).append_left dn)
       clear h1 h2 h3 h4 h5
       go_wp2
       go_roundg (gk - 1)
       case measure=>have:=HK.out;omega
       case rel=>exact ⟨qb,q3,d3,dn ++ C,rs2,rfl,rfl,hb,HK.out.1,by rw [←HQ3.out];exact HK.out.2.2,H3.out.1,S4,⟨H3.out.2.1,H3.out.2.2.1,H3.out.2.2.2.1,H3.out.2.2.2.2.1,H3.out.2.2.2.2.2.1,HQ3.out.symm,H3.out.2.2.2.2.2.2⟩⟩
      ·have hbI:(n:Int)<(qb:Int):=by omega
       by_cases hm:qm<n
       ·have hmI:(qm:Int)<(n:Int):=by omega
        obtain ⟨X,Y,rfl,hX⟩: ∃X rs',rs=X ++ rs'∧X.length=bs:=⟨rs.take bs,rs.drop bs,(List.take_append_drop bs rs).symm,by rw [List.length_take];have:=HB2.out;omega⟩
        rw [List.length_append] at hln
        have hcx:Ch le bs (X ++ Y):=hd.2.2.2.1
        have hsX:Srt le X:=by have:=hcx.head;rwa [←hX,List.take_left] at this
        have hcy:Ch le bs Y:=by have:=hcx.tail;rwa [show (X ++ Y).drop bs=Y by rw [←hX,List.drop_left]] at this
        have hsY:Srt le Y:=hcy.all (by have:=HB2.out;omega)
        have hsm:=symMerge L FG FR FS HTT.out HCF.out (g:=g) (cb:=cb) EG.out (cap:=cap) HC.out R HN.out (by omega) (n - qa) qa qm n dk wr dn X Y [] (Nat.le_refl _) hds S1.out (by rw [List.append_nil];exact hd.1) hd.2.1 (by omega) (by omega) (List.length_pos_iff.1 (by omega)) (List.length_pos_iff.1 (by omega)) hsX hsY
        have HSM:=hq7 hsm
        have HDD:=hq7 hd
        have HXY:=hq7 (show X.length+Y.length≤b2 by have:=HB2.out;omega)
        clear hsm hd HD hX hcx hsX hcy hsY hk hln S1 hqb2 hqm hm
        go_wp2_with fail
        refine HSM.out.mono ?_
        rintro e w3 ⟨rfl,d3,C,h1,h2,h3,h4,h5⟩
        have S4:Aside (SWK enc k w0 blk off d3 w3):=h2
        have H3:=hq7 (show d3.size=n∧Ch le b2 d3.toList∧d3.toList.Perm d.toList by
         obtain ⟨-,g2,g3,-,g4,g5,q,g6⟩:=HDD.out
         have hl:=h5.length_eq
         rw [List.length_append] at hl
         rw [List.append_nil] at h3
         rw [h3]
         exact ⟨h1,g3.snoc (g2.trans g6) h4 (by rw [hl];exact HXY.out), .trans (h5.append_left dn) g4⟩)
        clear h1 h2 h3 h4 h5
        go_wp2
        go_roundg (gO - 1)
        case measure=>have:=HB2.out;omega
        case rel=>exact ⟨b2,d3,rfl,by have:=HB2.out;omega,HB2.out.2.2.2,HB2.out.2.1,H3.out.1,S4,H3.out.2⟩
       ·have hmI:(n:Int)≤(qm:Int):=by omega
        have hsr:Srt le rs:=hd.2.2.2.1.all (by omega)
        have H3:=hq7 (show dk.size=n∧Ch le b2 dk.toList∧dk.toList.Perm d.toList by
         obtain ⟨g1,g2,g3,-,g4,g5,q,g6⟩:=hd
         rw [g1]
         exact ⟨hds,g3.snoc (g2.trans g6) hsr (by have:=HB2.out;omega),g4⟩)
        have S4:Aside (SWK enc k w0 blk off dk wr):=S1
        clear hd HD hsr hk hln S1 hqb2 hqm hm
        go_wp2
        go_roundg (gO - 1)
        case measure=>have:=HB2.out;omega
        case rel=>exact ⟨b2,dk,rfl,by have:=HB2.out;omega,HB2.out.2.2.2,HB2.out.2.1,H3.out.1,S4,H3.out.2⟩
    ·have hbnI:(n:Int)≤(bs:Int):=by omega
     have hd:_∧_:=HD
     have H3:=hq7 (show Srt le dk.toList∧dk.toList.Perm d.toList from ⟨hd.1.all (by rw [Array.length_toList];omega),hd.2⟩)
     clear hd HD
     go_wp2
     go_end0
     exact ⟨rfl,dk,hds,S1.out,H3.out⟩
theorem vT {k:Nat} (L:gY P ρ k) (FG:Bd P ρ 291 Tryz.f291) (FR:Bd P ρ 265 Tryz.f265) (FS:Bd P ρ 219 Tryz.f219)
  (FI:Bears P (ρ.f 218) (SlBodyF.n20 (ren ρ))) (FT:Bd P ρ 154 Tryz.f154) (FW:Bd P ρ 98 Tryz.f98)
  {le:α→α→Bool} (hT:Tot le) {enc:α→List Value} {cf:α→α→Int} (hcf: ∀x y,ltOf cf x y= !le y x) {g:Nat} {cb:Array Value} (eg: ∀args w,(callFunc g args).run P w= .ok (.enter g args) w) {blk off cap n:Nat} {d:Array α} {w:World} (hC:CmpLays P g cb enc k cf blk off n w) (R:RowK enc k w blk off d) (hn:d.size=n) (hsz:n<1152921504606846976):
  Calls P (ρ.f 98) #[.slice (some ⟨blk,off,none⟩) n cap, .func (.func g) #[] cb] w fun e w'=>e= .returned (.tuple #[])∧ ∃d',d'.size=n∧SWK enc k w blk off d' w'∧Srt le d'.toList∧d'.toList.Perm d.toList:=by
 have mixed:=L.mixed;have t0:=L.t0;have a0:=L.a0;have z0:=L.z0;have v0:=L.v0;have t3:=L.t3;have a3:=L.a3;have z3:=L.z3;have v3:=L.v3;have t22:=L.t22;have a22:=L.a22;have z22:=L.z22;have v22:=L.v22;have t25:=L.t25;have a25:=L.a25;have z25:=L.z25;have v25:=L.v25
 have eT: ∀args w,(callFunc (ρ.f 154) args).run P w= .ok (.enter (ρ.f 154) args) w:=FT.enters rfl
 have HT:=hq7 (stable L FG FR FS FI FT hT hcf (cap:=cap) eg hC R hn hn (SWK.start R.hH) hsz)
 clear hT hcf eg hC hn R
 obtain ⟨nm,tg,ps,rt,-,FX⟩:=FW
 simp only [Tryz.f98,Option.map_some,rnC,rnR,kM,rnE,rnO,List.map_cons,List.map_nil] at FX
 go_enter FX,List.length_nil
 go_wp2_with fail
 refine HT.out.mono ?_
 rintro e w' ⟨rfl,d',h1,h2,h3,h4⟩
 have H:=hq7 (And.intro h1 (And.intro h2 (And.intro h3 h4)))
 clear h1 h2 h3 h4
 go_wp2
 go_end0
 exact ⟨rfl,d',H.out⟩
theorem MV (L:SlLaysF0.n20 P ρ) (p:Option Addr) (cap:Nat) (fv:Value) (w:World):Calls P (ρ.f 20) #[.slice p 0 cap, .int .i64 0, .int .i64 0,fv] w fun e w'=>e= .returned (.tuple #[])∧w'=w:=by
 have mixed:=L.mixed;have t0:=L.t0;have a0:=L.a0;have z0:=L.z0;have v0:=L.v0;have t3:=L.t3;have a3:=L.a3;have z3:=L.z3;have v3:=L.v3;have t4:=L.t4;have a4:=L.a4;have z4:=L.z4;have v4:=L.v4;have t22:=L.t22;have a22:=L.a22;have z22:=L.z22;have v22:=L.v22;have t25:=L.t25;have a25:=L.a25;have z25:=L.z25;have v25:=L.v25
 obtain ⟨_,_,FG⟩:=L.f20
 go_enter FG,SlBodyF.n20_ntmps ρ
 go_wp2
 refine wp_loop_rounds 1 ?_
 rw [rounds_succ]
 go_wp2
 go_end0
 exact ⟨rfl,rfl⟩
theorem MW {k:Nat} (L:gY P ρ k) (FI:Bears P (ρ.f 218) (SlBodyF.n20 (ren ρ))) (FT:Bd P ρ 154 Tryz.f154) (p:Option Addr) (cap:Nat) (fv:Value) (w:World):
  Calls P (ρ.f 154) #[.slice p 0 cap, .int .i64 0,fv] w fun e w'=>e= .returned (.tuple #[])∧w'=w:=by
 have mixed:=L.mixed;have t0:=L.t0;have a0:=L.a0;have z0:=L.z0;have v0:=L.v0;have t3:=L.t3;have a3:=L.a3;have z3:=L.z3;have v3:=L.v3;have t4:=L.t4;have a4:=L.a4;have z4:=L.z4;have v4:=L.v4;have t22:=L.t22;have a22:=L.a22;have z22:=L.z22;have v22:=L.v22;have t25:=L.t25;have a25:=L.a25;have z25:=L.z25;have v25:=L.v25
 have eI: ∀args w,(callFunc (ρ.f 218) args).run P w= .ok (.enter (ρ.f 218) args) w:=FI.enters rfl
 have hi:=fun W=>MV (L.ins FI) p cap fv W
 have HI:=hq7 hi
 clear hi
 obtain ⟨nm,tg,ps,rt,-,FX⟩:=FT
 simp only [Tryz.f154,Option.map_some,rnC,rnR,kM,rnE,rnO,List.map_cons,List.map_nil] at FX
 go_enter FX,List.length_nil
 go_wp2
 refine wp_loop_rounds 1 ?_
 rw [rounds_succ]
 go_wp2_with fail
 refine (HI.out _).mono ?_
 rintro e w' ⟨rfl,rfl⟩
 go_wp2
 refine wp_loop_rounds 1 ?_
 rw [rounds_succ]
 go_wp2
 go_end0
 exact ⟨rfl,rfl⟩
theorem vU {k:Nat} (L:gY P ρ k) (FI:Bears P (ρ.f 218) (SlBodyF.n20 (ren ρ))) (FT:Bd P ρ 154 Tryz.f154) (FW:Bd P ρ 98 Tryz.f98) (p:Option Addr) (cap:Nat) (fv:Value) (w:World):
  Calls P (ρ.f 98) #[.slice p 0 cap,fv] w fun e w'=>e= .returned (.tuple #[])∧w'=w:=by
 have mixed:=L.mixed;have t0:=L.t0;have a0:=L.a0;have z0:=L.z0;have v0:=L.v0;have t3:=L.t3;have a3:=L.a3;have z3:=L.z3;have v3:=L.v3;have t4:=L.t4;have a4:=L.a4;have z4:=L.z4;have v4:=L.v4;have t22:=L.t22;have a22:=L.a22;have z22:=L.z22;have v22:=L.v22;have t25:=L.t25;have a25:=L.a25;have z25:=L.z25;have v25:=L.v25
 have eT: ∀args w,(callFunc (ρ.f 154) args).run P w= .ok (.enter (ρ.f 154) args) w:=FT.enters rfl
 have HT:=hq7 (fun W=>MW L FI FT p cap fv W)
 obtain ⟨nm,tg,ps,rt,-,FX⟩:=FW
 simp only [Tryz.f98,Option.map_some,rnC,rnR,kM,rnE,rnO,List.map_cons,List.map_nil] at FX
 go_enter FX,List.length_nil
 go_wp2_with fail
 refine (HT.out _).mono ?_
 rintro e w' ⟨rfl,rfl⟩
 go_wp2
 go_end0
 exact ⟨rfl,rfl⟩
end Go.Proofs.YtoofbflplhbpbaaGreatDoor.StbG
namespace Go.Proofs.YtoofbflplhbpbaaGreatDoor
open Go.RowKit Go.Sort Go.Proofs.YtoofbflplhbpbaaGreatDoor.Stb
theorem oh {α:Type} {f:α→List Value} {k:Nat}: ∀{l:List α},(∀x∈l,(f x).length=k)→(l.flatMap f).length=l.length*k
 | [],_=>by simp
 | a :: r,h=>by rw [List.flatMap_cons,List.length_append,h a (by simp),oh (fun x hx=>h x (by simp [hx])),List.length_cons,Nat.succ_mul,Nat.add_comm]
theorem flat_get {α:Type} {f:α→List Value} {k:Nat}: ∀{l:List α} {i:Nat} {a:α},(∀x∈l,(f x).length=k)→l[i]?=some a→ ∀j,j<k→(l.flatMap f)[i*k+j]?=(f a)[j]?
 | [],i,a,_,h,_,_=>by simp at h
 | x :: r,0,a,hf,h,j,hj=>by
  simp only [List.getElem?_cons_zero,Option.some.injEq] at h
  subst h
  rw [List.flatMap_cons,Nat.zero_mul,Nat.zero_add,List.getElem?_append_left (by rw [hf x (by simp)];exact hj)]
 | x :: r,i+1,a,hf,h,j,hj=>by
  have hx:=hf x (by simp)
  rw [List.flatMap_cons,List.getElem?_append_right (by rw [hx,Nat.succ_mul];omega),hx,show (i+1)*k+j - k=i*k+j by rw [Nat.succ_mul];omega]
  exact flat_get (fun y hy=>hf y (by simp [hy])) (by simpa using h) j hj
theorem MX {β:Type} {l1 l2:List (β×List Value)} {x:β} {cs:List Value} {k j:Nat} (h: ∀y∈l1,y.2.length=k) (hj:j<cs.length) (u:Value):
  ((l1 ++(x,cs) :: l2).flatMap Prod.snd).set (l1.length*k+j) u=(l1 ++(x,cs.set j u) :: l2).flatMap Prod.snd:=by
 have hl:=oh (f:=Prod.snd) h
 rw [List.flatMap_append,List.flatMap_append,List.flatMap_cons,List.flatMap_cons,List.set_append,if_neg (by omega),hl,Nat.add_sub_cancel_left,List.set_append,if_pos (by exact hj)]
theorem jQ {w:World} {B e k n c t:Nat} {A:Option Addr} {xs:List Value} (h:w.ownsRow B e k (.slice A n c) n xs) (ht:t<n*k):
  ∃g,A=some ⟨g,0,none⟩∧B≤g∧w.cell? ⟨g,t,none⟩=xs[t]?∧w.frozen? ⟨g,t,none⟩=false∧ ∀u,(w.setCell ⟨g,t,none⟩ u).ownsRow B e k (.slice A n c) n (xs.set t u):=by
 rcases h.2 with ⟨_,hn⟩ |⟨g,cap,cur,he,hg,hc,h1,h2,h3,h4⟩
 ·subst hn;simp at ht
 ·injection he with e1 e2 e3
  subst e1 e3
  have hb:Blk w g e cur:=hc
  refine ⟨g,rfl,hg,by rw [hb.cell,←h4,List.getElem?_take_of_lt ht,Array.getElem?_toList],hb.frozen t,fun u=>⟨by rw [List.length_set];exact h.1, .inr ⟨g,c,_,rfl,hg,hb.ay t u,h1,h2,by simpa using h3, ?_⟩⟩⟩
  rw [Array.toList_setIfInBounds,List.take_set,h4]
theorem DK {α:Type} [Inhabited α] {enc:α→Value} {d:Array α} {w:World} {B e k n c g m:Nat} {xs:List Value} {os:Array Obj} (ho:w.ownsRow B e k (.slice (some ⟨g,0,none⟩) n c) n xs) (hs:d.size=n*k):
  (grow (putRow enc (Sort.ahead w m) g 0 d) os).ownsRow B e k (.slice (some ⟨g,0,none⟩) n c) n (d.toList.map enc)∧w.grownBy (grow (putRow enc (Sort.ahead w m) g 0 d) os) (some g):=by
 rcases ho.2 with ⟨he,_⟩ |⟨g',cap,cur,he,hg,hc,h1,h2,h3,h4⟩
 ·cases he
 ·injection he with e1 e2 e3
  injection e1 with e1
  injection e1 with e1
  subst e1 e3
  have hlt:g<w.heap.size:=(Array.getElem?_eq_some_iff.1 hc).1
  have hle:n*k≤cur.size:=by rw [h3];exact Nat.mul_le_mul_right k h1
  refine ⟨⟨by simp [hs], .inr ⟨g,c,putCells enc 0 d cur,rfl,hg, ?_,h1,h2,by simp [putCells,h3], ?_⟩⟩,⟨rfl,rfl,rfl,by simp [putRow,mapBlock,Sort.ahead],fun q hq hne=> ?_⟩⟩
  ·rw [heap_grow_old _ _ (by simpa [putRow,mapBlock,Sort.ahead] using hlt)]
   simp [putRow,mapBlock,Sort.ahead,Array.getElem?_modify,hc,onCells]
  ·apply List.ext_getElem?
   intro t
   by_cases ht:t<n*k
   ·rw [List.getElem?_take_of_lt ht,Array.getElem?_toList,List.getElem?_map,Array.getElem?_toList]
    have hd:t<d.size:=by omega
    have hcur:t<cur.size:=by omega
    simp [putCells,hd,hcur]
   ·rw [List.getElem?_eq_none (by simp;omega),List.getElem?_eq_none (by simp;omega)]
  ·rw [heap_grow_old _ _ (by simpa [putRow,mapBlock,Sort.ahead] using hq)]
   have hne':g≠q:=fun e=>hne (by rw [e])
   simp [putRow,mapBlock,Sort.ahead,Array.getElem?_modify,hne']
theorem DL {α:Type} [Inhabited α] (enc:α→List Value) (k:Nat) (hk: ∀x,(enc x).length=k) (d:Array α):(flatK enc k d).toList=d.toList.flatMap enc:=by
 apply List.ext_getElem?
 intro t
 have hl:(d.toList.flatMap enc).length=d.size*k:=by rw [oh (fun x _=>hk x),Array.length_toList]
 by_cases ht:t<d.size*k
 ·have k0:0<k:=by
   rcases Nat.eq_zero_or_pos k with h | h
   ·subst h;simp at ht
   ·exact h
  have hi:t / k<d.size:=Nat.div_lt_of_lt_mul (by rw [Nat.mul_comm];exact ht)
  have hj:t % k<k:=Nat.mod_lt _ k0
  have e:t=t / k*k+t % k:=by have:=Nat.div_add_mod t k;rw [Nat.mul_comm] at this;omega
  have h2:=flat_get (l:=d.toList) (f:=enc) (i:=t / k) (fun x _=>hk x) (by rw [Array.getElem?_toList,Array.getElem?_eq_getElem hi]) (t % k) hj
  rw [←e] at h2
  rw [h2,Array.getElem?_toList]
  simp only [flatK,Array.getElem?_map,Array.getElem?_range,ht,if_true,Option.map_some]
  rw [getElem!_pos d (t / k) hi,getElem!_pos (enc d[t / k]) (t % k) (by rw [hk];exact hj),List.getElem?_eq_getElem (by rw [hk];exact hj)]
 ·rw [List.getElem?_eq_none (by simp;omega),List.getElem?_eq_none (by omega)]
theorem vV {α:Type} [Inhabited α] {enc:α→List Value} {k:Nat} (hk: ∀x,(enc x).length=k) (h1: ∀x,∀v∈enc x,v.oneCell'=true) {d:Array α} {w:World} {B e n c g:Nat} (ho:w.ownsRow B e k (.slice (some ⟨g,0,none⟩) n c) n (d.toList.flatMap enc)) (hn:d.size=n):RowK enc k w g 0 d:=by
 have hlt:g<w.heap.size:=(World.ownsRow.lt ho g rfl).2
 refine ⟨hk,h1,fun j hj=> ?_,hlt⟩
 rw [size_flatK,hn] at hj
 obtain ⟨g',he,-,hc,hf,-⟩:=jQ ho hj
 injection he with he
 injection he with he
 subst he
 rw [Nat.zero_add]
 refine ⟨?_,hf⟩
 rw [hc,←DL enc k hk d,Array.getElem?_toList,Array.getElem?_eq_getElem (by rw [size_flatK,hn];exact hj),getElem!_pos _ j (by rw [size_flatK,hn];exact hj)]
 rfl
theorem vW {α:Type} [Inhabited α] {enc:α→List Value} {k:Nat} (hk: ∀x,(enc x).length=k) {d':Array α} {w W:World} {B e n c g:Nat} {xs:List Value} (ho:w.ownsRow B e k (.slice (some ⟨g,0,none⟩) n c) n xs) (hn:d'.size=n) (S:SWK enc k w g 0 d' W):
  W.ownsRow B e k (.slice (some ⟨g,0,none⟩) n c) n (d'.toList.flatMap enc)∧w.grownBy W (some g):=by
 obtain ⟨m,os,rfl⟩:=S
 have h:=DK (enc:=id) (d:=flatK enc k d') (m:=m) (os:=os) ho (by rw [size_flatK,hn])
 rw [List.map_id,DL enc k hk] at h
 exact h
theorem MZ {α β:Type} {f:α→β} {a b:List β} (h:a.Perm b): ∀l:List α,l.map f=a→ ∃l':List α,l'.Perm l∧l'.map f=b:=by
 induction h with
 | nil=>intro l hl;exact ⟨l, .refl _,hl⟩
 | cons x _ ih=>
  intro l hl
  obtain ⟨y,r,rfl,rfl,rfl⟩:=List.map_eq_cons_iff.1 hl
  obtain ⟨r',h1,h2⟩:=ih r rfl
  exact ⟨y :: r',h1.cons y,by rw [List.map_cons,h2]⟩
 | swap x y r=>
  intro l hl
  obtain ⟨u,l1,rfl,rfl,h1⟩:=List.map_eq_cons_iff.1 hl
  obtain ⟨v,l2,rfl,rfl,rfl⟩:=List.map_eq_cons_iff.1 h1
  exact ⟨v :: u :: l2, .swap _ _ _,rfl⟩
 | trans _ _ ih1 ih2=>
  intro l hl
  obtain ⟨l1,h1,h2⟩:=ih1 l hl
  obtain ⟨l2,h3,h4⟩:=ih2 l1 h2
  exact ⟨l2,h3.trans h1,h4⟩
structure Key {κ:Type} (le:κ→κ→Bool):Prop where
 trans: ∀a b c,le a b=true→le b c=true→le a c=true
 total: ∀a b,(le a b || le b a)=true
 anti: ∀a b,le a b=true→le b a=true→a=b
theorem vX:Key (fun a b:Int=>decide (a≤b)):=⟨fun a b c=>by simp only [decide_eq_true_eq];omega,fun a b=>by simp only [Bool.or_eq_true,decide_eq_true_eq];omega,fun a b=>by simp only [decide_eq_true_eq];omega⟩
theorem vY:Key (fun a b:List UInt8=>decide (a≤b)):=⟨fun a b c=>by simp only [decide_eq_true_eq];exact List.le_trans,fun a b=>by simp only [Bool.or_eq_true,decide_eq_true_eq];exact List.le_total a b,fun a b=>by simp only [decide_eq_true_eq];exact List.le_antisymm⟩
theorem DN {α κ:Type} {le:κ→κ→Bool} (K:Key le) {key:α→κ} {l l':List α} (hd:(l.map key).Nodup) (hp:l'.Perm l) (hs:(l'.map key).Pairwise (fun a b=>le a b=true)):l'=Gr.eU le key l:=by
 have ht:=List.pairwise_mergeSort (le:=fun a b=>le (key a) (key b)) (fun a b c=>K.trans _ _ _) (fun a b=>K.total _ _) l
 refine (hp.trans (List.mergeSort_perm l _).symm).eq_of_pairwise (le:=fun a b=>le (key a) (key b)=true) (fun x y hx hy h1 h2=> ?_) (List.pairwise_map.1 hs) ht
 have hx:=hp.mem_iff.1 hx
 have hy:=(List.mergeSort_perm l _).mem_iff.1 hy
 have e:=K.anti _ _ h1 h2
 obtain ⟨i,hi,rfl⟩:=List.getElem_of_mem hx
 obtain ⟨j,hj,rfl⟩:=List.getElem_of_mem hy
 have hij:i=j:=by
  have:=List.getElem_inj (h₀:=by simpa using hi) (h₁:=by simpa using hj) hd (i:=i) (j:=j)
  simp only [List.getElem_map] at this
  exact this.1 e
 subst hij
 rfl
theorem vZ {β κ α:Type} {le:κ→κ→Bool} (K:Key le) {enc:α→List Value} {ka:α→κ} {kb:β→κ} {l:List (β×List Value)} {q:List ((β×List Value)×α)} (hq1:q.map Prod.fst=l) (hq2: ∀y∈q,enc y.2=y.1.2∧ka y.2=kb y.1.1)
  {d':List α} (hp:d'.Perm (q.map Prod.snd)) (hs:d'.Pairwise (fun a b=>le (ka a) (ka b)=true)) (hd:((l.map Prod.fst).map kb).Nodup): ∃l':List (β×List Value),l'.Perm l∧d'.flatMap enc=l'.flatMap Prod.snd∧l'.map Prod.fst=Gr.eU le kb (l.map Prod.fst):=by
 obtain ⟨q',h1,h2⟩:=MZ hp.symm q rfl
 have hm: ∀y∈q',enc y.2=y.1.2∧ka y.2=kb y.1.1:=fun y hy=>hq2 y (h1.mem_iff.1 hy)
 have h3:(q'.map Prod.fst).Perm l:=hq1▸h1.map Prod.fst
 refine ⟨q'.map Prod.fst,h3, ?_,DN K hd (h3.map _) ?_⟩
 ·rw [←h2,List.flatMap_map,List.flatMap_map]
  clear h1 h2 h3
  induction q' with
  | nil=>rfl
  | cons y r ih=>rw [List.flatMap_cons,List.flatMap_cons,(hm y (by simp)).1,ih (fun z hz=>hm z (by simp [hz]))]
 ·have e:((q'.map Prod.fst).map Prod.fst).map kb=d'.map ka:=by
   rw [←h2,List.map_map,List.map_map,List.map_map]
   exact List.map_congr_left fun y hy=>(hm y hy).2.symm
  rw [e]
  exact List.pairwise_map.2 hs
theorem qN {β α κ:Type} {enc:α→List Value} {ka:α→κ} {kb:β→κ}: ∀{l:List (β×List Value)},(∀x∈l,∃e,enc e=x.2∧ka e=kb x.1)→ ∃q:List ((β×List Value)×α),q.map Prod.fst=l∧ ∀y∈q,enc y.2=y.1.2∧ka y.2=kb y.1.1
 | [],_=>⟨[],rfl,by simp⟩
 | x :: r,h=>by
  obtain ⟨e,h1⟩:=h x (by simp)
  obtain ⟨q,h2,h3⟩:=qN (l:=r) (fun y hy=>h y (List.mem_cons_of_mem _ hy))
  exact ⟨(x,e) :: q,by rw [List.map_cons,h2],fun y hy=>(List.mem_cons.1 hy).elim (fun e=>e▸h1) (h3 y)⟩
theorem qO {β α:Type} {enc:α→List Value}: ∀{q:List ((β×List Value)×α)},(∀y∈q,enc y.2=y.1.2)→(q.map Prod.snd).flatMap enc=(q.map Prod.fst).flatMap Prod.snd
 | [],_=>rfl
 | y :: r,h=>by rw [List.map_cons,List.map_cons,List.flatMap_cons,List.flatMap_cons,h y (by simp),qO (fun z hz=>h z (by simp [hz]))]
theorem Lst.pairs {α:Type} {W:World} {B size:Nat} {R:α→List Value→Prop} {A:Option Addr} {l:List α} (h:Lst W B size R A l): ∃lp:List (α×List Value),lp.map Prod.fst=l∧(∀x∈lp,R x.1 x.2∧x.2.length=size)∧Reads W B size A l.length (lp.flatMap Prod.snd):=by
 have key: ∀(m:List α) (i:Nat),(∀(j:Nat) (a:α),m[j]?=some a→l[i+j]?=some a)→ ∃lp:List (α×List Value),lp.map Prod.fst=m∧(∀x∈lp,R x.1 x.2∧x.2.length=size)∧
   ∀(j:Nat) (x:α×List Value),lp[j]?=some x→ ∃b off,A=some ⟨b,off,none⟩∧b<B∧ ∀(t:Nat) u,x.2[t]?=some u→W.cell? ⟨b,off+(i+j)*size+t,none⟩=some u:=by
  intro m
  induction m with
  | nil=>exact fun i _=>⟨[],rfl,by simp,by simp⟩
  | cons a r ih=>
   intro i hi
   obtain ⟨b,off,cs,e,hlt,hr,hl,hc⟩:=h i a (by have:=hi 0 a rfl;simpa using this)
   obtain ⟨lp,h1,h2,h3⟩:=ih (i+1) (fun j b hj=>by have:=hi (j+1) b (by simpa using hj);rwa [show i+1+j=i+(j+1) by omega])
   refine ⟨(a,cs) :: lp,by rw [List.map_cons,h1],fun x hx=>(List.mem_cons.1 hx).elim (fun e=>by rw [e];exact ⟨hr,hl⟩) (h2 x),fun j x hj=> ?_⟩
   cases j with
   | zero=>
    simp only [List.getElem?_cons_zero,Option.some.injEq] at hj
    subst hj
    exact ⟨b,off,e,hlt,fun t u hu=>hc t u hu⟩
   | succ j=>
    obtain ⟨b',off',e',hlt',hc'⟩:=h3 j x (by simpa using hj)
    exact ⟨b',off',e',hlt',fun t u hu=>by have:=hc' t u hu;rwa [show i+1+j=i+(j+1) by omega] at this⟩
 obtain ⟨lp,h1,h2,h3⟩:=key l 0 (fun j a hj=>by simpa using hj)
 have hll:lp.length=l.length:=by rw [←h1,List.length_map]
 have hfl:=oh (f:=Prod.snd) (l:=lp) (k:=size) (fun x hx=>(h2 x hx).2)
 refine ⟨lp,h1,h2,by rw [hfl,hll],fun hp=> ?_⟩
 obtain ⟨x0,hx0⟩: ∃x,lp[0]?=some x:=⟨_,List.getElem?_eq_getElem (by omega)⟩
 obtain ⟨b,off,e,hlt,-⟩:=h3 0 x0 hx0
 refine ⟨b,off,e,hlt,fun t u hu=> ?_⟩
 rcases Nat.eq_zero_or_pos size with h0 | h0
 ·subst h0
  rw [List.getElem?_eq_none (by omega)] at hu
  cases hu
 ·have ht:t<lp.length*size:=by rw [←hfl];exact (List.getElem?_eq_some_iff.1 hu).1
  have hi:t / size<lp.length:=Nat.div_lt_of_lt_mul (by rw [Nat.mul_comm];exact ht)
  have et:t=t / size*size+t % size:=by have:=Nat.div_add_mod t size;rw [Nat.mul_comm] at this;omega
  have h5:=flat_get (f:=Prod.snd) (l:=lp) (k:=size) (fun x hx=>(h2 x hx).2) (List.getElem?_eq_getElem hi) (t % size) (Nat.mod_lt _ h0)
  rw [←et,hu] at h5
  obtain ⟨b',off',e',-,hc'⟩:=h3 _ _ (List.getElem?_eq_getElem hi)
  rw [e] at e'
  cases e'
  have:=hc' _ _ h5.symm
  rw [Nat.zero_add,Nat.add_assoc,←et] at this
  exact this
end Go.Proofs.YtoofbflplhbpbaaGreatDoor
