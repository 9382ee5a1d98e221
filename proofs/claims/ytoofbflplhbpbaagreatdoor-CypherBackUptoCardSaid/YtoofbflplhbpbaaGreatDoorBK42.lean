/- Contracts and plain laws,part 42. -/
import Derived.Test.YtoofbflplhbpbaaGreatDoorBK41
set_option maxHeartbeats 64000000
set_option maxRecDepth 1000000
set_option linter.all false
namespace Go.Proofs.YtoofbflplhbpbaaGreatDoor
open Go.RowKit
def letters:List UInt8:= [97,98,99,100,101,102,103,104,105,106,107,108,109,110,111,112,113,114,115,116,117,118,119,120,121,122,65,66,67,68,69,70,71,72,73,74,75,76,77,78,79,80,81,82,83,84,85,86,87,88,89,90,95,48,49,50,51,52,53,54,55,56,57]
def iZ (c:UInt8):Nat:=letters.findIdx (· == c)
def EW (n:Nat):Bool:=decide (iZ (UInt8.ofNat n)≤63) &&(decide (iZ (UInt8.ofNat n)=63) == !Lex.aF (UInt8.ofNat n)) &&(decide (52<iZ (UInt8.ofNat n)) ==(!Lex.aF (UInt8.ofNat n) || Num.au (UInt8.ofNat n)))
theorem OJ:(List.range 256).all EW=true:=by kernel_rfl
theorem mF (c:UInt8):iZ c≤63∧(iZ c=63↔Lex.aF c=false)∧(52<iZ c↔Lex.aF c=false∨Num.au c=true):=by
 have h:=List.all_eq_true.1 OJ c.toNat (List.mem_range.2 c.toNat_lt)
 unfold EW at h
 rw [UInt8.ofNat_toNat] at h
 simp only [Bool.and_eq_true,decide_eq_true_eq,beq_iff_eq] at h
 obtain ⟨⟨h1,h2⟩,h3⟩:=h
 refine ⟨h1, ?_, ?_⟩
 ·exact ⟨fun e=>by rw [decide_eq_true e] at h2;simpa using h2.symm,fun e=>by rw [e] at h2;simpa using h2⟩
 ·exact ⟨fun e=>by rw [decide_eq_true e] at h3;simpa using h3.symm,fun e=>by
   have h4:(!Lex.aF c || Num.au c)=true:=by rcases e with e | e<;> simp [e]
   rw [h4] at h3;simpa using h3⟩
theorem pos_at {c:UInt8} (h:iZ c<63):letters[iZ c]?=some c:=by
 have hl:iZ c<letters.length:=h
 rw [List.getElem?_eq_getElem hl]
 have:=List.findIdx_getElem (w:=hl)
 exact congrArg some (beq_iff_eq.1 this)
theorem OL {c:UInt8} {j:Nat} (h:j<iZ c): ∃d,letters[j]?=some d∧d≠c:=by
 have hl:j<letters.length:=Nat.lt_of_lt_of_le h (mF c).1
 refine ⟨_,List.getElem?_eq_getElem hl, ?_⟩
 have:=List.not_of_lt_findIdx h
 simpa using this
theorem EX {j:Nat} {d:UInt8} (hj:j<63) (h:letters[j]?=some d):(⟨#[97,98,99,100,101,102,103,104,105,106,107,108,109,110,111,112,113,114,115,116,117,118,119,120,121,122,65,66,67,68,69,70,71,72,73,74,75,76,77,78,79,80,81,82,83,84,85,86,87,88,89,90,95,48,49,50,51,52,53,54,55,56,57]⟩:ByteArray)[j]'hj=d:=
 Option.some.inj ((jV (⟨#[97,98,99,100,101,102,103,104,105,106,107,108,109,110,111,112,113,114,115,116,117,118,119,120,121,122,65,66,67,68,69,70,71,72,73,74,75,76,77,78,79,80,81,82,83,84,85,86,87,88,89,90,95,48,49,50,51,52,53,54,55,56,57]⟩:ByteArray) j hj).symm.trans h)
theorem wY (s:ByteArray) (w:World) (hs:s.size≤1073741824):
  Calls Tryz.prog 57 #[.string s] w fun e w'=>e= .returned (.bool (Gr.aI s.data.toList))∧Below w.heap.size w w':=by
 obtain ⟨R,hR⟩: ∃R,Gr.aI s.data.toList=R:=⟨_,rfl⟩
 rw [hR]
 have HR:=hq7 hR
 clear hR
 have hl:=Lib.size_eq s
 have hg:=fun (k:Nat) (h:k<s.size)=>jV s k h
 obtain ⟨n,hn⟩: ∃n,s.size=n:=⟨_,rfl⟩
 rw [hn] at hl hs
 have hu:=iC
 by_cases h0:n=0
 ·subst h0
  have hr:R=false:=by rw [←HR.out,List.eq_nil_of_length_eq_zero hl.symm];exact CZ
  have HRR:=hq7 hr
  clear hr hl hg hs
  go_enter Tryz.func57,Tryz.ntmps57
  go_wp2
  go_ret
  exact ⟨by rw [HRR.out];rfl,Below.refl _ _⟩
 have h0i:(1:Int)≤n:=by omega
 have t1:decide ((n:Int)<1)=false:=decide_eq_false (by omega)
 by_cases h40:40<n
 ·have h40i:(40:Int)<n:=by omega
  have t40:decide ((40:Int)<n)=true:=decide_eq_true h40i
  have hr:R=false:=by rw [←HR.out];exact C9 (by omega)
  have HRR:=hq7 hr
  clear hr hl hg h0 h40 hs
  go_enter Tryz.func57,Tryz.ntmps57
  go_wp2
  go_ret
  exact ⟨by rw [HRR.out];rfl,Below.refl _ _⟩
 have h40i:(n:Int)≤40:=by omega
 have t40:decide ((40:Int)<n)=false:=decide_eq_false (by omega)
 have HG:=hq7 hg
 have HN:=hq7 hn
 have HLL:=hq7 hl
 have HU:=hq7 hu
 clear hg hl
 go_enter Tryz.func57,Tryz.ntmps57
 go_wp2_with fail
 go_loopg [3] n (fun kx x wr=> ∃k:Nat,x= .int .i64 k∧k+kx=n∧Below w.heap.size w wr∧Hid (∀(j:Nat) d,j<k→s.data.toList[j]?=some d→Lex.aF d=true∧(j=0→Num.au d=false)))
 case atStart=>exact ⟨0,rfl,by omega,by first | exact Below.refl _ _ | exact (Below.refl _ _).drew,fun j d h=>absurd h (Nat.not_lt_zero _)⟩
 case round=>
  obtain ⟨k,rfl,hk,hb,hI⟩:=hrel
  have HB:=hq7 hb
  clear hb
  cases gk with
  | zero=>
   obtain rfl:k=n:=by omega
   have hr:R=true:=by
    rw [←HR.out]
    have hlt:0<s.size:=by rw [HN.out];omega
    have h0:=HG.out 0 hlt
    exact Dh h0 ((hI.out 0 _ (by omega) h0).2 rfl) (by rw [←HLL.out];omega) (fun j d hj=>(hI.out j d (by have:=(List.getElem?_eq_some_iff.1 hj).1;rw [←HLL.out] at this;exact this) hj).1)
   have HRR:=hq7 hr
   clear hr
   go_wp2
   go_ret
   exact ⟨by rw [HRR.out];rfl,HB.out⟩
  | succ kq=>
   have hkn:k<s.size:=by rw [HN.out];omega
   have hknI:(k:Int)<n:=by omega
   have pk:(0:Int)≤(k:Int):=by omega
   have tk:((k:Int)).toNat=k:=by omega
   obtain ⟨c,hc⟩: ∃c,s[k]'hkn=c:=⟨_,rfl⟩
   have HC:=hq7 (show s.data.toList[k]?=some c by rw [←hc];exact HG.out k hkn)
   obtain ⟨q,hq⟩: ∃q,iZ c=q:=⟨_,rfl⟩
   have HQ:=hq7 hq
   have hq63:q≤63:=hq▸(mF c).1
   clear hq
   go_wp2_with fail
   go_loopg [4] q (fun jx x wr=> ∃j:Nat,x= .int .i64 j∧j+jx=q∧Below w.heap.size w wr)
   case atStart=>exact ⟨0,rfl,by omega,HB.out⟩
   case round=>
    obtain ⟨j,rfl,hj,hb⟩:=hrel
    have HB2:=hq7 hb
    clear hb
    cases gk with
    | zero=>
     obtain rfl:j=q:=by omega
     have pj:(0:Int)≤(j:Int):=by omega
     have ttj:((j:Int)).toNat=j:=by omega
     by_cases h63:j=63
     ·subst h63
      have hr:R=false:=by rw [←HR.out];exact Df HC.out ((mF c).2.1.1 HQ.out)
      have HRR:=hq7 hr
      clear hr hj pj ttj hk
      go_upto_region 7 with fail
      go_quiet (fail)
      go_wp2_with fail
      go_ret
      exact ⟨by rw [HRR.out];rfl,by first | exact HB2.out | exact below_drewN HB2.out _⟩
     ·have hjn:j<63:=by omega
      have hjI:(j:Int)<63:=by omega
      have tj:decide ((j:Int)<63)=true:=decide_eq_true hjI
      have t63:((j:Int) == 63)=false:=beq_eq_false_iff_ne.2 (by omega)
      have hd:=EX hjn (show letters[j]?=some c by rw [←HQ.out];exact pos_at (by rw [HQ.out];exact hjn))
      have tn:((c.toNat:Int) !=c.toNat)=false:=by simp
      have hw:Lex.aF c=true:=by
       cases h:Lex.aF c with
       | true=>rfl
       | false=>exact absurd (HQ.out.symm.trans ((mF c).2.1.2 h)) h63
      by_cases hdig:k=0∧52<j
      ·obtain ⟨rfl,h52⟩:=hdig
       have t52:decide ((52:Int)<j)=true:=decide_eq_true (by omega)
       have h52i:(52:Int)<j:=by omega
       have hr:R=false:=by
        rw [←HR.out]
        refine Dc HC.out ?_
        rcases (mF c).2.2.1 (by rw [HQ.out];exact h52) with h | h
        ·rw [h] at hw;cases hw
        ·exact h
       have HRR:=hq7 hr
       clear hr hj hk hw h63 h52
       go_upto_region 7 with fail
       go_quiet (fail)
       go_wp2_with fail
       go_ret
       exact ⟨by rw [HRR.out];rfl,by first | exact HB2.out | exact below_drewN HB2.out _⟩
      ·have HI2:=hq7 (show∀(i:Nat) d,i<k+1→s.data.toList[i]?=some d→Lex.aF d=true∧(i=0→Num.au d=false) from fun i d hi he=>by
        by_cases e:i=k
        ·subst e
         rw [HC.out] at he
         cases he
         refine ⟨hw,fun e0=> ?_⟩
         cases h:Num.au c with
         | false=>rfl
         | true=>exact absurd ⟨e0,by have:=(mF c).2.2.2 (.inr h);rw [HQ.out] at this;exact this⟩ hdig
        ·exact hI.out i d (by omega) he)
       have HK:=hq7 hk
       have hor:k≠0∨(k=0∧ ¬52<j):=by
        by_cases e:k=0
        ·exact .inr ⟨e,fun h=>hdig ⟨e,h⟩⟩
        ·exact .inl e
       clear hj hk hw h63 hdig
       rcases hor with e |⟨rfl,e⟩
       ·have tk0:((k:Int) == 0)=false:=beq_eq_false_iff_ne.2 (by omega)
        have tk1:(k:Int)≠0:=by omega
        clear e
        go_upto_region 7 with fail
        go_quiet (fail)
        go_wp2_with fail
        go_roundg kq
        case measure=>omega
        case rel=>exact ⟨k+1,by simp,by have:=HK.out;omega,by first | exact HB2.out | exact below_drewN HB2.out _,HI2.out⟩
       ·have t52:decide ((52:Int)<j)=false:=decide_eq_false (by omega)
        have t52i:(j:Int)≤52:=by omega
        clear e
        go_upto_region 7 with fail
        go_quiet (fail)
        go_wp2_with fail
        go_roundg kq
        case measure=>omega
        case rel=>exact ⟨1,by simp,by have:=HK.out;omega,by first | exact HB2.out | exact below_drewN HB2.out _,HI2.out⟩
    | succ jq=>
     have hjn:j<63:=by omega
     have hjI:(j:Int)<63:=by omega
     have tj:decide ((j:Int)<63)=true:=decide_eq_true hjI
     have pj:(0:Int)≤(j:Int):=by omega
     have ttj:((j:Int)).toNat=j:=by omega
     obtain ⟨d,hd,hne⟩:=OL (c:=c) (j:=j) (by rw [HQ.out];omega)
     have hd:=EX hjn hd
     have tn:((d.toNat:Int) !=c.toNat)=true:=by
      rw [bne_iff_ne]
      intro e
      exact hne (UInt8.toNat_inj.1 (Int.ofNat.inj e))
     have HJ:=hq7 hj
     clear hj hne hk
     go_upto_region 7 with fail
     go_quiet (fail)
     go_wp2_with fail
     go_roundg jq
     case measure=>omega
     case rel=>exact ⟨j+1,by simp,by have:=HJ.out;omega,by first | exact HB2.out | exact below_drewN HB2.out _⟩
theorem EY (B:Nat) (A:Option Addr) (c:Nat) (ps:List Gr.P) (w:World) (h:Lst w B 6 (aB w B) A ps) (hB:B≤w.heap.size) (hl:ps.length≤1073741824) (hs: ∀p∈ps,POk p):
  Calls Tryz.prog 58 #[.slice A ps.length c] w fun e w'=>e= .returned (.int .i64 (Gr.aQ ps:Nat))∧Below w.heap.size w w':=by
 obtain ⟨R,hR⟩: ∃R,Gr.aQ ps=R:=⟨_,rfl⟩
 rw [hR]
 unfold Gr.aQ at hR
 obtain ⟨n,hn⟩: ∃n,ps.length=n:=⟨_,rfl⟩
 rw [hn] at hl hR⊢
 have HH:=hq7 h
 have HS:=hq7 hs
 have HN:=hq7 hn
 have HU:=hq7 iC
 by_cases h8:16<n
 ·rw [if_pos h8] at hR
  subst hR
  have h8i:(16:Int)<n:=by omega
  have t8:decide ((16:Int)<n)=true:=decide_eq_true h8i
  clear h h8 hs hl
  go_enter Tryz.func58,Tryz.ntmps58
  go_wp2
  go_ret
  exact ⟨rfl,Below.refl _ _⟩
 rw [if_neg h8] at hR
 have HR:=hq7 hR
 have h8i:(n:Int)≤16:=by omega
 have t8:decide ((16:Int)<n)=false:=decide_eq_false (by omega)
 clear h h8 hs hl hR
 go_enter Tryz.func58,Tryz.ntmps58
 go_wp2_with fail
 go_loopg [3] n (fun g x wr=> ∃k:Nat,x= .int .i64 k∧k+g=n∧Below w.heap.size w wr∧ ∀j a,j<k→ps[j]?=some a→Gr.dN (Gr.aj Gr.P.key ps j) a=0)
 case atStart=>exact ⟨0,rfl,by omega,Below.refl _ _,fun j a h=>by omega⟩
 case round=>
  obtain ⟨k,rfl,hk,hb,hz⟩:=hrel
  have HK:=hq7 hk
  have HZ:=hq7 hz
  have HB:=hq7 hb
  clear hz hb
  cases gk with
  | zero=>
   obtain rfl:k=n:=by omega
   have hr:=qG HN.out HR.out HZ.out
   have HRR:=hq7 hr
   clear hk hr
   go_wp2
   go_ret
   exact ⟨by rw [HRR.out];rfl,HB.out⟩
  | succ g=>
   have hkn:k<n:=by omega
   have hknI:(k:Int)<n:=by omega
   obtain ⟨p,hp⟩: ∃p,ps[k]?=some p:=⟨_,List.getElem?_eq_getElem (by rw [HN.out];exact hkn)⟩
   have HP:=hq7 hp
   have hLB:=HH.out.below (HB.out.mono hB) (aB.below (HB.out.mono hB))
   obtain ⟨b,o,An,cn,At,ct,rfl,hbB,⟨c0,c1,c2,c3,c4,c5⟩,r1,r2⟩:=hLB.prop hp
   obtain ⟨z,hz⟩: ∃z:ByteArray,(⟨p.key.toArray⟩:ByteArray)=z:=⟨_,rfl⟩
   obtain ⟨zt,hzt⟩: ∃z:ByteArray,(⟨p.val.text.toArray⟩:ByteArray)=z:=⟨_,rfl⟩
   unfold ST at c0 c3
   rw [hz] at c0
   rw [hzt] at c3
   clear hp hk hkn
   have hpok:=HS.out p (List.mem_of_getElem? HP.out)
   have hBr:B≤wr.heap.size:=Nat.le_trans hB HB.out.size
   have hzd:z.data.toList=p.key:=by rw [←hz]
   obtain ⟨Nm,hNm⟩: ∃b,Gr.aI p.key=b:=⟨_,rfl⟩
   obtain ⟨CV,hCV⟩: ∃CV,Cel.check p.val=CV:=⟨_,rfl⟩
   have HC:=hq7 (wY z wr (by rw [Lib.size_eq,hzd];exact hpok.key))
   rw [hzd,hNm] at HC
   have HBC:=hq7 (fun (X:World) (hb:Below wr.heap.size wr X)=>show X.cell? ⟨b,o+k*6,none⟩=some (.string z)∧X.cell? ⟨b,o+k*6+1,none⟩=some (.int .i64 p.val.kind)∧X.cell? ⟨b,o+k*6+2,none⟩=some (.int .i64 p.val.num)∧X.cell? ⟨b,o+k*6+3,none⟩=some (.string zt)∧X.cell? ⟨b,o+k*6+4,none⟩=some (.slice An p.val.nums.length cn)∧X.cell? ⟨b,o+k*6+5,none⟩=some (.slice At p.val.texts.length ct) from
    have hl:=Nat.lt_of_lt_of_le hbB hBr
    ⟨(hb.cell (p:=⟨b,o+k*6,none⟩) hl).trans c0,(hb.cell (p:=⟨b,o+k*6+1,none⟩) hl).trans c1,(hb.cell (p:=⟨b,o+k*6+2,none⟩) hl).trans c2,(hb.cell (p:=⟨b,o+k*6+3,none⟩) hl).trans c3,(hb.cell (p:=⟨b,o+k*6+4,none⟩) hl).trans c4,(hb.cell (p:=⟨b,o+k*6+5,none⟩) hl).trans c5⟩)
   have HCK0:=hq7 (fun (X:World) (hb:Below wr.heap.size wr X) (m:Nat)=>(show VIn (X.drewN m) B (.agg #[.int .i64 p.val.kind, .int .i64 p.val.num, .string zt, .slice An p.val.nums.length cn, .slice At p.val.texts.length ct]) p.val by
    have:=((jO (cn:=cn) (ct:=ct) hpok.val r1 r2).below (hb.mono hBr)).below (below_drewN (Below.refl B X) m)
    unfold ST at this
    rwa [hzt] at this))
   have HHP0:Hid (∀(X:World) (q:Gr.P) (m:Nat),Below wr.heap.size wr X→m<n→ps[m]?=some q→X.cell? ⟨b,o+m*6,none⟩=some (ST q.key)):=fun X q m hb hm hq=>by
    obtain ⟨b',o',_,_,_,_,he,hlt,⟨e0,-⟩,-⟩:=hLB.prop hq
    injection he with he
    injection he with he1 he2
    subst he1
    subst he2
    exact ((hb.mono hBr).cell (by exact hlt)).trans e0
   have HNM:=hq7 hNm
   have HZD:=hq7 hzd
   have HCV:=hq7 hCV
   have HBR:=hq7 hBr
   have hpkI:(0:Int)≤(k:Int):=by omega
   have htk:((k:Int)).toNat=k:=by omega
   clear hNm hCV hz hzt hzd hLB r1 r2 hBr hpok hbB
   go_wp2_with fail
   refine HC.out.mono ?_
   rintro e w1 ⟨rfl,hb1⟩
   clear c0 c1 c2 c3 c4 c5
   obtain ⟨d0,d1,d2,d3,d4,d5⟩:=HBC.out w1 hb1
   have HBW:=hq7 (HB.out.trans (hb1.mono HB.out.size))
   have HCK:=hq7 (fun (m:Nat)=>zJ B _ p.val (w1.drewN m) (HCK0.out w1 hb1 m) (Nat.le_trans HBR.out hb1.size))
   rw [HCV.out] at HCK
   have HHP:Hid (∀q:Gr.P,∀m:Nat,m<n→ps[m]?=some q→w1.cell? ⟨b,o+m*6,none⟩=some (ST q.key)):=fun q m hm hq=>HHP0.out w1 q m hb1 hm hq
   clear hb1
   cases Nm with
   | false=>
    have hr:=kH HR.out HP.out HZ.out (e:=60) (by unfold Gr.dN;rw [HNM.out,if_pos rfl]) (by decide)
    have HRR:=hq7 hr
    clear hr
    go_wp2
    go_ret
    exact ⟨by rw [HRR.out];rfl,HBW.out⟩
   | true=>
    have HCONT:=hq7 (fun (h:Gr.dN (Gr.aj Gr.P.key ps k) p=0)=>jv HP.out HZ.out h)
    have HSTOP:=hq7 (fun (e:Nat) (h:Gr.dN (Gr.aj Gr.P.key ps k) p=e) (hne:e≠0)=>kH HR.out HP.out HZ.out h hne)
    by_cases h0:k=0
    ·have hk0:(k:Int)≤0:=by omega
     have tk:decide (0<k)=false:=decide_eq_false (by omega)
     have hpw:Gr.dN (Gr.aj Gr.P.key ps k) p=CV:=by
      subst h0
      unfold Gr.dN
      rw [HNM.out,if_neg (by decide),if_neg (by simp [Gr.aj]),HCV.out]
     have HPW:=hq7 hpw
     clear h0 hpw
     go_upto_region 8 with fail
     go_quiet (fail)
     go_wp2_with fail
     refine (HCK.out _).mono ?_
     rintro e w4 ⟨rfl,hb4⟩
     have HB4:=hq7 (fG (below_drewN HBW.out nq) hb4)
     clear hb4
     cases CV with
     | zero=>
      have HM:=hq7 (HCONT.out HPW.out)
      go_wp2
      go_roundg g
      case measure=>omega
      case rel=>exact ⟨k+1,int_eq (by omega),by have:=HK.out;omega,HB4.out,HM.out⟩
     | succ e=>
      have hr:=HSTOP.out (e+1) HPW.out (by omega)
      have HRR:=hq7 hr
      have hne:(((e+1:Nat):Int) !=0)=true:=by rw [bne_iff_ne];omega
      clear hr
      go_wp2
      go_ret
      exact ⟨by rw [HRR.out];rfl,HB4.out⟩
    ·obtain ⟨m,hm⟩: ∃m,k=m+1:=⟨k - 1,by omega⟩
     have tk:decide (0<k)=true:=decide_eq_true (by omega)
     have hkp:(0:Int)<k:=by omega
     have hsub:(k:Int) - 1=(m:Int):=by omega
     have hmn:(m:Int)<n:=by omega
     have hmn':m<n:=by omega
     obtain ⟨q,hq⟩: ∃q,ps[m]?=some q:=⟨_,List.getElem?_eq_getElem (by omega)⟩
     have e0:=HHP.out q m hmn' hq
     unfold ST at e0
     obtain ⟨zq,hzq⟩: ∃z:ByteArray,(⟨q.key.toArray⟩:ByteArray)=z:=⟨_,rfl⟩
     have hzqd:zq.toList=q.key:=by rw [←hzq,jr]
     rw [hzq] at e0
     obtain ⟨b1,hb1⟩: ∃b,Op.bytesLess z.toList zq.toList=b:=⟨_,rfl⟩
     obtain ⟨b2,hb2⟩: ∃b,(z.toList == zq.toList)=b:=⟨_,rfl⟩
     have hb:decide (p.key≤q.key)=(b1 || b2):=by rw [←hb1,←hb2,nY,hzqd,Lib.toList_data,HZD.out]
     have hpw:Gr.dN (Gr.aj Gr.P.key ps k) p=if (b1 || b2)=true then 6 else CV:=by
      have hpv:Gr.aj Gr.P.key ps k=some q.key:=by rw [hm];show ps[m]?.map Gr.P.key=_;rw [hq];rfl
      unfold Gr.dN
      rw [HNM.out,hpv,if_neg (by decide),←hb,HCV.out]
      rfl
     have HPW:=hq7 hpw
     clear h0 hpw hq hzq hzqd hb hm hmn'
     have HTL:=hq7 (show (b1 || b2)=true→R=6 from fun h=>HSTOP.out 6 (by rw [HPW.out,h];rfl) (by decide))
     cases b1 with
     | true=>
      have hr:=HTL.out rfl
      have HRR:=hq7 hr
      clear hr
      go_upto_region 8 with fail
      go_quiet (fail)
      go_wp2
      go_ret
      exact ⟨by rw [HRR.out];rfl,below_drewN HBW.out _⟩
     | false=>
      cases b2 with
      | true=>
       have hr:=HTL.out rfl
       have HRR:=hq7 hr
       clear hr
       go_upto_region 8 with fail
       go_quiet (fail)
       go_wp2
       go_ret
       exact ⟨by rw [HRR.out];rfl,below_drewN HBW.out _⟩
      | false=>
       go_upto_region 8 with fail
       go_quiet (fail)
       go_wp2_with fail
       refine (HCK.out _).mono ?_
       rintro e w4 ⟨rfl,hb4⟩
       have HB4:=hq7 (fG (below_drewN HBW.out nq) hb4)
       clear hb4
       cases CV with
       | zero=>
        have HM:=hq7 (HCONT.out HPW.out)
        go_wp2
        go_roundg g
        case measure=>omega
        case rel=>exact ⟨k+1,int_eq (by omega),by have:=HK.out;omega,HB4.out,HM.out⟩
       | succ e=>
        have hr:=HSTOP.out (e+1) HPW.out (by omega)
        have HRR:=hq7 hr
        have hne:(((e+1:Nat):Int) !=0)=true:=by rw [bne_iff_ne];omega
        clear hr
        go_wp2
        go_ret
        exact ⟨by rw [HRR.out];rfl,HB4.out⟩
theorem Reads.head {W:World} {B n q b o:Nat} {xs:List Value} (h:Reads W B 1 (some ⟨b,o,none⟩) n xs) (hq:q≤n):Reads W B 1 (some ⟨b,o,none⟩) q (xs.take q):=by
 refine ⟨by rw [List.length_take,h.1];omega,fun h0=> ?_⟩
 obtain ⟨b',o',e,hb,hc⟩:=h.2 (by omega)
 cases e
 exact ⟨b,o,rfl,hb,fun j u hu=>hc j u (by
  rw [List.getElem?_take] at hu
  split at hu
  ·exact hu
  ·cases hu)⟩
theorem Reads.tail {W:World} {B n q b o:Nat} {xs:List Value} (h:Reads W B 1 (some ⟨b,o,none⟩) n xs) (hq:q≤n):Reads W B 1 (some ⟨b,o+q,none⟩) (n - q) (xs.drop q):=by
 refine ⟨by rw [List.length_drop,h.1];omega,fun h0=> ?_⟩
 obtain ⟨b',o',e,hb,hc⟩:=h.2 (by omega)
 cases e
 exact ⟨b,o+q,rfl,hb,fun j u hu=>by
  rw [List.getElem?_drop] at hu
  have:=hc _ u hu
  rwa [←Nat.add_assoc] at this⟩
def E8 (w:World) (s:List (List UInt8)) (e:Ending) (w':World):Prop:= ∃(A':Option Addr) (c' m:Nat) (out:List (List UInt8)),e= .returned (.slice A' m c')∧out.length=m∧w'.ownsRow w.heap.size 9 1 (.slice A' m c') m (out.map ST)∧Gr.Srt s out∧Below w.heap.size w w'
theorem E9 (l:List (List UInt8)): ∀u∈l.map ST,u.oneCell'=true:=fun u hu=>by
 obtain ⟨x,-,rfl⟩:=List.mem_map.1 hu
 rfl
theorem Fa (B:Nat) (A:Option Addr) (c n:Nat) (s:List (List UInt8)) (w:World) (h:Reads w B 1 A n (s.map ST)) (hl:s.length=n) (hB:B≤w.heap.size) (hn:n<2):
  Calls Tryz.prog 115 #[.slice A n c] w (E8 w s):=by
 obtain ⟨i0,hi,hz0,hz1,hz2⟩:=info_parts kR
 have HH:=hq7 (h.below ((Below.refl B w).alloc hB (.cells #[] 9)))
 have H1:=hq7 (E9 s)
 have HON:=hq7 (gZ w 9 1)
 have HL1:=hq7 (show 0+n≤maxLen by unfold maxLen;omega)
 have HL2:=hq7 (show (0+n)*16≤140737488355328 by omega)
 have HSM:=hq7 (Gr.Srt.small (s:=s) (by omega))
 have HL:=hq7 hl
 have hnI:(n:Int)<2:=by omega
 have t2:decide ((n:Int)<2)=true:=decide_eq_true hnI
 clear h hn hl
 go_enter Tryz.func115,Tryz.ntmps115
 go_wp2_with (at_builtin;refine jX (w.alloc (.cells #[] 9)) rfl (.tmp 12) (.tmp 13) 23 rfl w.heap.size 9 i0 (.string ⟨#[]⟩) 1 16 Tryz.underlying23 hi hz0 hz1 hz2 rfl (by decide) (.slice (some ⟨w.heap.size,0,none⟩) 0 0) 0 [] rfl HON.out B A n c (s.map ST) rfl HH.out H1.out HL1.out HL2.out (by simp) ?_)
 intro v9 w9 hown9 hgr9 hwh9
 obtain ⟨A9,c9,rfl⟩:=ak hown9
 have HO9:=hq7 hown9
 have HB9:=hq7 (((Below.refl w.heap.size w).alloc (Nat.le_refl _) (.cells #[] 9)).grown hgr9 (by simp) (fun j e=>by cases e;exact Nat.le_refl _))
 clear hown9 hgr9 hwh9
 go_wp2
 go_ret
 exact ⟨A9,c9,n,s,rfl,HL.out,HO9.out,HSM.out,HB9.out⟩
theorem wZ: ∀l:List (List UInt8),(Gr.dedup l).length≤l.length
 | []=>Nat.le_refl _
 | a :: r=>by
  have:=wZ r
  rw [Gr.dedup]
  split<;> simp only [List.length_cons]<;> omega
structure SrS (w2:World) (a b:List (List UInt8)) (i j:Nat) (out:List (List UInt8)) (A:Option Addr) (c m:Nat) (V:World):Prop where
 le:m≤i+j
 len:out.length=m
 own:V.ownsRow w2.heap.size 9 1 (.slice A m c) m (out.map ST)
 mrg:Gr.Mrg a b i j out
 bel:Below w2.heap.size w2 V
theorem SrS.add {w2 V V':World} {a b out:List (List UInt8)} {i j i' j' m c c':Nat} {A A':Option Addr} {x:List UInt8} {z:ByteArray} (h:SrS w2 a b i j out A c m V) (hz:(⟨x.toArray⟩:ByteArray)=z) (hm:Gr.Mrg a b i' j' (out ++ [x])) (hle:m+1≤i'+j') (ho:V'.ownsRow w2.heap.size 9 1 (.slice A' (m+1) c') (m+1) (out.map ST ++ [.string z])) (hb:Below w2.heap.size V V'):SrS w2 a b i' j' (out ++ [x]) A' c' (m+1) V':=
 ⟨hle,by rw [List.length_append,h.len];rfl,by rw [List.map_append,List.map_singleton,ST,hz];exact ho,hm,h.bel.trans hb⟩
theorem SrS.below {w2 V V':World} {a b out:List (List UInt8)} {i j m c:Nat} {A:Option Addr} (h:SrS w2 a b i j out A c m V) (hb:Below V.heap.size V V'):SrS w2 a b i j out A c m V':=
 ⟨h.le,h.len,aP h.own (bJ hb none) (fun g c t fz e=>by cases e),h.mrg,h.bel.trans (hb.mono h.bel.size)⟩
theorem qV {W:World} {B la i:Nat} {A:Option Addr} {xa:List (List UInt8)} (h:Reads W B 1 A la (xa.map ST)) (hi:i<la): ∃pa oa x z,A=some ⟨pa,oa,none⟩∧W.cell? ⟨pa,oa+i,none⟩=some (.string z)∧(⟨x.toArray⟩:ByteArray)=z∧xa[i]?=some x:=by
 obtain ⟨p,o,u,e,-,hx,hp⟩:=h.cell hi
 rw [List.getElem?_map] at hx
 obtain ⟨x,hx2,rfl⟩:=Option.map_eq_some_iff.1 hx
 exact ⟨p,o,x,_,e,hp,rfl,hx2⟩
theorem OM: ∀(m B:Nat) (A:Option Addr) (c n:Nat) (s:List (List UInt8)) (w:World),n≤m→Reads w B 1 A n (s.map ST)→s.length=n→B≤w.heap.size→n≤c→n≤1073741800→
  Calls Tryz.prog 115 #[.slice A n c] w (E8 w s):=by
 intro m
 induction m with
 | zero=>
  intro B A c n s w hm h hl hB hc hn
  exact Fa B A c n s w h hl hB (by omega)
 | succ m ih=>
 intro B A c n s w hm h hl hB hc hn
 by_cases h2:n<2
 ·exact Fa B A c n s w h hl hB h2
 obtain ⟨b,o,rfl,-,-⟩:=h.2 (by omega)
 obtain ⟨q,hq⟩: ∃q,n / 2=q:=⟨_,rfl⟩
 have hq1:q≤n:=by omega
 have hcq: ¬c=q:=by omega
 have hq0: ¬q=0:=by omega
 have hqI:(n:Int).tdiv 2=(q:Int):=by rw [←hq];exact (Int.ofNat_tdiv n 2).symm
 have hqnI:(q:Int)≤n:=by omega
 have hncI:(n:Int)≤c:=by omega
 have hqcI:(q:Int)≤c:=by omega
 have tq:((q:Int)).toNat=q:=by omega
 have hnI:(2:Int)≤n:=by omega
 have hnB:(n:Int)≤1073741800:=by omega
 have t2:decide ((n:Int)<2)=false:=decide_eq_false (by omega)
 have hcall1:=ih B (some ⟨b,o,none⟩) c q (s.take q) w (by omega) (by rw [List.map_take];exact h.head hq1) (by rw [List.length_take];omega) hB (by omega) (by omega)
 have hcall2:=fun (V:World) (hb:Below w.heap.size w V)=>ih B (some ⟨b,o+q,none⟩) (c - q) (n - q) (s.drop q) V (by omega) (by rw [List.map_drop];exact (h.below (hb.mono hB)).tail hq1) (by rw [List.length_drop];omega) (Nat.le_trans hB hb.size) (by omega) (by omega)
 have HC1:=hq7 hcall1
 have HC2:=hq7 hcall2
 have HIN:=hq7 (show∀x,x∈s↔x∈s.take q∨x∈s.drop q from fun x=>by conv=>lhs;rw [←List.take_append_drop q s];rw [List.mem_append])
 have HLN:=hq7 hl
 clear ih hcall1 hcall2 h hm hl hq h2 hc hn hB
 go_enter Tryz.func115,Tryz.ntmps115
 go_wp2_with fail
 refine HC1.out.mono ?_
 rintro e w1 ⟨A1,c1,la,xa,rfl,hla,oa,sa,b1⟩
 have HA:=hq7 (And.intro hla (And.intro oa (And.intro sa b1)))
 clear hla oa sa b1
 go_wp2_with fail
 refine (HC2.out w1 HA.out.2.2.2).mono ?_
 rintro e w2 ⟨A2,c2,lb,xb,rfl,hlb,ob,sb,b2⟩
 have hla:la≤q:=by rw [←HA.out.1,HA.out.2.2.1.length];exact Nat.le_trans (wZ _) (by rw [List.length_take];omega)
 have hlb2:lb≤n - q:=by rw [←hlb,sb.length];exact Nat.le_trans (wZ _) (by rw [List.length_drop,HLN.out];omega)
 have hab:la+lb≤1073741800:=by omega
 have HB2:=hq7 (HA.out.2.2.2.trans (b2.mono HA.out.2.2.2.size))
 have HRA:=hq7 (show Reads w2 w2.heap.size 1 A1 la (xa.map ST) from ((Reads.dL HA.out.2.1).below b2).more b2.size)
 have HRB:=hq7 (show Reads w2 w2.heap.size 1 A2 lb (xb.map ST) from Reads.dL ob)
 have HLA:=hq7 (And.intro HA.out.1 hlb)
 have HSA:=hq7 (And.intro HA.out.2.2.1 sb)
 have HS0:=hq7 (show SrS w2 xa xb 0 0 [] (some ⟨w2.heap.size,0,none⟩) 0 0 (w2.alloc (.cells #[] 9)) from ⟨Nat.le_refl _,rfl,gZ w2 9 1,Gr.Mrg.start _ _,(Below.refl _ w2).alloc (Nat.le_refl _) _⟩)
 clear hla hlb2 hlb ob sb b2 HC1 HC2 HA hqI hqnI hncI hqcI tq hnI hnB t2 hq1 hcq hq0
 go_wp2_with fail
 go_loopg [5,6,7] (la+lb) (fun g v x y wr=> ∃(i j m:Nat) (A':Option Addr) (c':Nat) (out:List (List UInt8)),v= .slice A' m c'∧x= .int .i64 i∧y= .int .i64 j∧i+j+g=la+lb∧i≤la∧j≤lb∧SrS w2 xa xb i j out A' c' m wr)
 case atStart=>exact ⟨0,0,0,_,_, [],rfl,rfl,rfl,by omega,by omega,by omega,HS0.out⟩
 case round=>
  obtain ⟨i,j,m,A',c',out,rfl,rfl,rfl,hk,hil,hjl,hst⟩:=hrel
  have HST:=hq7 hst
  clear hst HS0
  cases gk with
  | zero=>
   obtain rfl:i=la:=by omega
   obtain rfl:j=lb:=by omega
   have hm:=HST.out.mrg
   have hla:=HLA.out.1
   have hlb:=HLA.out.2
   have hd:Gr.Srt s out:=Gr.Mrg.done (a:=xa) (b:=xb) (by rw [hla,hlb];exact hm) (fun x=>by rw [HSA.out.1.2 x,HSA.out.2.2 x];exact HIN.out x)
   have HD:=hq7 hd
   clear hk hil hjl hd hm hla hlb
   go_wp2
   go_ret
   exact ⟨A',c',m,out,rfl,HST.out.len,own_base HST.out.own HB2.out.size,HD.out,HB2.out.trans (HST.out.bel.mono HB2.out.size)⟩
  | succ g=>
   have HK:=hq7 hk
   have hij:i<la∨j<lb:=by omega
   have hlI:(la:Int)≤1073741800:=by omega
   have hmI:(lb:Int)≤1073741800:=by omega
   have HBL:=hq7 (show Below w2.heap.size w2 wr from HST.out.bel)
   have hc:(i<la∧j=lb)∨(i=la∧j<lb)∨(i<la∧j<lb):=by omega
   have hmle:=HST.out.le
   have hmlI:(m:Int)≤1073741800:=by omega
   refine Or.elim hc ?c1 (fun h=>Or.elim h ?c2 ?c3)
   case' c1=>
    rintro ⟨h1,rfl⟩
    have h1I:(i:Int)<la:=by omega
    have t1:decide ((i:Int)<la)=true:=decide_eq_true h1I
    have t3:((j:Int) ==(j:Int))=true:=by simp
    obtain ⟨pa,oa,x,z,rfl,hp,hz,hx⟩:=qV (HRA.out.below HBL.out) h1
    have hm:=HST.out.mrg.step HSA.out.1.1 hx (fun y hy=>by rw [←HLA.out.2,List.drop_length] at hy;cases hy)
    have HM:=hq7 (show (out.getLast?=some x→Gr.Mrg xa xb (i+1) j out)∧(out.getLast?≠some x→Gr.Mrg xa xb (i+1) j (out ++ [x])) from hm)
    obtain ⟨i',hi'⟩: ∃i',i+1=i':=⟨_,rfl⟩
    obtain ⟨j',hj'⟩: ∃j',j=j':=⟨_,rfl⟩
    rw [hi',hj'] at HM
    have HN:=hq7 (show i'+j'+g=la+j∧i'≤la∧j'≤j∧m+1≤i'+j' by omega)
    have HI:=hq7 (show i+1=i'∧j=j' from ⟨hi',hj'⟩)
    clear h1 hx hm hi' hj'
   case' c2=>
    rintro ⟨rfl,h1⟩
    have h1I:(j:Int)<lb:=by omega
    have t1:decide ((i:Int)<(i:Int))=false:=decide_eq_false (by omega)
    have t2:decide ((j:Int)<lb)=true:=decide_eq_true h1I
    have t3:((j:Int) ==(lb:Int))=false:=beq_eq_false_iff_ne.2 (by omega)
    obtain ⟨pa,oa,x,z,rfl,hp,hz,hx⟩:=qV (HRB.out.below HBL.out) h1
    have hm:=HST.out.mrg.symm.step HSA.out.2.1 hx (fun y hy=>by rw [←HLA.out.1,List.drop_length] at hy;cases hy)
    have HM:=hq7 (show (out.getLast?=some x→Gr.Mrg xa xb i (j+1) out)∧(out.getLast?≠some x→Gr.Mrg xa xb i (j+1) (out ++ [x])) from ⟨fun h=>(hm.1 h).symm,fun h=>(hm.2 h).symm⟩)
    obtain ⟨i',hi'⟩: ∃i',i=i':=⟨_,rfl⟩
    obtain ⟨j',hj'⟩: ∃j',j+1=j':=⟨_,rfl⟩
    have HI:=hq7 (show i=i'∧j+1=j' from ⟨hi',hj'⟩)
    rw [hi',hj'] at HM
    have HN:=hq7 (show i'+j'+g=i+lb∧i'≤i∧j'≤lb∧m+1≤i'+j' by omega)
    clear h1 hx hm hi' hj'
   case' c3=>
    rintro ⟨h1,h2⟩
    have h1I:(i:Int)<la:=by omega
    have h2I:(j:Int)<lb:=by omega
    have t1:decide ((i:Int)<la)=true:=decide_eq_true h1I
    have t2:decide ((j:Int)<lb)=true:=decide_eq_true h2I
    have t3:((j:Int) ==(lb:Int))=false:=beq_eq_false_iff_ne.2 (by omega)
    obtain ⟨pa,oa,xx,za,rfl,hp,hz,hx⟩:=qV (HRA.out.below HBL.out) h1
    obtain ⟨pb,ob,xy,zb,rfl,hpb,hzb,hxb⟩:=qV (HRB.out.below HBL.out) h2
    obtain ⟨b1,hb1⟩: ∃b,Op.bytesLess za.toList zb.toList=b:=⟨_,rfl⟩
    obtain ⟨b2,hb2⟩: ∃b,(za.toList == zb.toList)=b:=⟨_,rfl⟩
    have hb:decide (xx≤xy)=(b1 || b2):=by rw [←hb1,←hb2,nY,←hz,←hzb,jr,jr]
    have HB12:=hq7 hb
    have HX:=hq7 (And.intro hx (And.intro hxb (And.intro hz hzb)))
    have hNa:i+1+j+g=la+lb∧i+1≤la∧j≤lb∧m+1≤i+1+j:=by omega
    have hNb:i+(j+1)+g=la+lb∧i≤la∧j+1≤lb∧m+1≤i+(j+1):=by omega
    have HNA:=hq7 hNa
    have HNB:=hq7 hNb
    clear hb hx hxb hz hzb h1 h2 hNa hNb
    refine Or.elim (show (b1=true∧b2=true)∨(b1=true∧b2=false)∨(b1=false∧b2=true)∨(b1=false∧b2=false) from by cases b1<;> cases b2<;> simp) ?d1 (fun h=>Or.elim h ?d2 (fun h=>Or.elim h ?d3 ?d4))
   case' d1 | d2 | d3=>
    rintro ⟨rfl,rfl⟩
    have hm:=HST.out.mrg.step HSA.out.1.1 HX.out.1 (Gr.EU HSA.out.2.1 HX.out.2.1 (of_decide_eq_true HB12.out))
    have HM:=hq7 (show (out.getLast?=some xx→Gr.Mrg xa xb (i+1) j out)∧(out.getLast?≠some xx→Gr.Mrg xa xb (i+1) j (out ++ [xx])) from hm)
    have hz:=HX.out.2.2.1
    obtain ⟨i',hi'⟩: ∃i',i+1=i':=⟨_,rfl⟩
    obtain ⟨j',hj'⟩: ∃j',j=j':=⟨_,rfl⟩
    rw [hi',hj'] at HM
    have HN:=hq7 (show i'+j'+g=la+lb∧i'≤la∧j'≤lb∧m+1≤i'+j' by have:=HNA.out;omega)
    have HI:=hq7 (show i+1=i'∧j=j' from ⟨hi',hj'⟩)
    obtain ⟨x,hx⟩: ∃x,x=xx:=⟨_,rfl⟩
    obtain ⟨z,hzz⟩: ∃z,z=za:=⟨_,rfl⟩
    subst hx hzz
    clear hm hi' hj'
   case' d4=>
    rintro ⟨rfl,rfl⟩
    have hm:=HST.out.mrg.symm.step HSA.out.2.1 HX.out.2.1 (Gr.EU HSA.out.1.1 HX.out.1 (List.le_of_lt (List.not_le.1 (of_decide_eq_false HB12.out))))
    have HM:=hq7 (show (out.getLast?=some xy→Gr.Mrg xa xb i (j+1) out)∧(out.getLast?≠some xy→Gr.Mrg xa xb i (j+1) (out ++ [xy])) from ⟨fun h=>(hm.1 h).symm,fun h=>(hm.2 h).symm⟩)
    have hz:=HX.out.2.2.2
    obtain ⟨i',hi'⟩: ∃i',i=i':=⟨_,rfl⟩
    obtain ⟨j',hj'⟩: ∃j',j+1=j':=⟨_,rfl⟩
    have HI:=hq7 (show i=i'∧j+1=j' from ⟨hi',hj'⟩)
    rw [hi',hj'] at HM
    have HN:=hq7 (show i'+j'+g=la+lb∧i'≤la∧j'≤lb∧m+1≤i'+j' by have:=HNB.out;omega)
    obtain ⟨x,hx⟩: ∃x,x=xy:=⟨_,rfl⟩
    obtain ⟨z,hzz⟩: ∃z,z=zb:=⟨_,rfl⟩
    subst hx hzz
    clear hm hi' hj'
   all_goals
    have HZ:=hq7 hz
    clear hz hc hil hjl hmle
    go_upto_region 9 with fail
    go_quiet (fail)
    go_upto_region 14 with fail
    obtain ⟨W5,hW5⟩: ∃W5,wr.drewN nq=W5:=⟨_,rfl⟩
    have HS5:=hq7 (show SrS w2 xa xb i j out A' c' m W5 from hW5▸HST.out.below (below_drewN (Below.refl _ _) nq))
    rw [hW5]
    clear hW5 hp
    rcases Nat.eq_zero_or_pos m with h0 | h0
    ·subst h0
     have ho:out= []:=List.eq_nil_of_length_eq_zero HS5.out.len
     have HM2:=hq7 (HM.out.2 (by rw [ho];simp))
     clear ho
     go_wp2_with (at_builtin;refine iD rfl (.tmp 84) (.tmp 86) 23 9 (.string ⟨#[]⟩) 16 Tryz.underlying23 kR rfl (by decide) rfl w2.heap.size (.slice A' 0 c') 0 (out.map ST) W5 rfl HS5.out.own (.string z) rfl rfl (by decide) HS5.out.bel.size ?_)
     intro v9 w9 ho9 hg9 hw9 hb9
     obtain ⟨A9,c9,rfl⟩:=ak ho9
     have HE:=hq7 (HS5.out.add HZ.out HM2.out HN.out.2.2.2 ho9 hb9)
     clear ho9 hg9 hw9 hb9
     go_wp2
     go_roundg g
     case measure=>omega
     case rel=>exact ⟨i',j',_,A9,c9,_,rfl,int_eq (by have:=HI.out;omega),int_eq (by have:=HI.out;omega),HN.out.1,HN.out.2.1,HN.out.2.2.1,HE.out⟩
    ·obtain ⟨m',hm'⟩: ∃m',m=m'+1:=⟨m - 1,by omega⟩
     obtain ⟨y,hy⟩: ∃y,out[m']?=some y:=⟨_,List.getElem?_eq_getElem (by rw [HS5.out.len];omega)⟩
     have hlast:out.getLast?=some y:=by rw [List.getLast?_eq_getElem?,HS5.out.len,hm'];exact hy
     obtain ⟨gb,rfl,-,hcell,-⟩:=jQ HS5.out.own (t:=m') (by omega)
     obtain ⟨zy,hzy⟩: ∃z:ByteArray,(⟨y.toArray⟩:ByteArray)=z:=⟨_,rfl⟩
     rw [List.getElem?_map,hy] at hcell
     simp only [Option.map_some,ST,hzy] at hcell
     have tm:((m:Int) == 0)=false:=beq_eq_false_iff_ne.2 (by omega)
     have hsub:(m:Int) - 1=(m':Int):=by omega
     have pm:(0:Int)≤(m':Int):=by omega
     have tmn:((m':Int)).toNat=m':=by omega
     have hmI':(m':Int)<(m:Int):=by omega
     have hm1:(1:Int)≤(m:Int):=by omega
     have hml:m<1073741824:=by omega
     have HML:=hq7 hml
     obtain ⟨bq,hbq⟩: ∃b,(zy.toList == z.toList)=b:=⟨_,rfl⟩
     have hbx:(y == x)=bq:=by rw [←hbq,←hzy,←HZ.out,jr,jr]
     cases bq with
     | true=>
      obtain rfl:y=x:=beq_iff_eq.1 hbx
      have HE:=hq7 (show SrS w2 xa xb i' j' out (some ⟨gb,0,none⟩) c' m W5 from ⟨Nat.le_of_succ_le HN.out.2.2.2,HS5.out.len,HS5.out.own,HM.out.1 hlast,HS5.out.bel⟩)
      clear hlast hy hzy h0 hbx hm' hml
      go_wp2
      go_roundg g
      case measure=>omega
      case rel=>exact ⟨i',j',_,_,c',_,rfl,int_eq (by have:=HI.out;omega),int_eq (by have:=HI.out;omega),HN.out.1,HN.out.2.1,HN.out.2.2.1,HE.out⟩
     | false=>
      have HM2:=hq7 (HM.out.2 (by rw [hlast];intro e;cases e;simp at hbx))
      clear hlast hy hzy h0 hbx hm' hml
      go_wp2_with (at_builtin;refine iD rfl (.tmp 84) (.tmp 86) 23 9 (.string ⟨#[]⟩) 16 Tryz.underlying23 kR rfl (by decide) rfl w2.heap.size (.slice (some ⟨gb,0,none⟩) m c') m (out.map ST) W5 rfl HS5.out.own (.string z) rfl rfl HML.out HS5.out.bel.size ?_)
      intro v9 w9 ho9 hg9 hw9 hb9
      obtain ⟨A9,c9,rfl⟩:=ak ho9
      have HE:=hq7 (HS5.out.add HZ.out HM2.out HN.out.2.2.2 ho9 hb9)
      clear ho9 hg9 hw9 hb9
      go_wp2
      go_roundg g
      case measure=>omega
      case rel=>exact ⟨i',j',_,A9,c9,_,rfl,int_eq (by have:=HI.out;omega),int_eq (by have:=HI.out;omega),HN.out.1,HN.out.2.1,HN.out.2.2.1,HE.out⟩
end Go.Proofs.YtoofbflplhbpbaaGreatDoor
