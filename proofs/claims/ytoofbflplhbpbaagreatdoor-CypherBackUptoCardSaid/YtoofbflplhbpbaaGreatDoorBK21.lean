/- Contracts and plain laws,part 21. -/
import Derived.Test.YtoofbflplhbpbaaGreatDoorBK13
import Derived.Test.YtoofbflplhbpbaaGreatDoorBK20
set_option maxHeartbeats 64000000
set_option maxRecDepth 1000000
set_option linter.all false
namespace Go.Proofs.YtoofbflplhbpbaaGreatDoor
open Go.RowKit
theorem uZ (k:Int) (w:World) (hk:Cel.In64 k):
  Calls Tryz.prog 36 #[.int .i64 k] w fun e w'=>e= .returned (.string ⟨(Cy.word k).toArray⟩)∧w=w':=by
 obtain ⟨hk1,hk2⟩:=hk
 obtain ⟨R,hR⟩: ∃R,Cy.word k=R:=⟨_,rfl⟩
 rw [hR]
 unfold Cy.word at hR
 by_cases h1:k=1
 ·subst h1
  rw [if_pos rfl] at hR
  subst hR
  go_enter Tryz.func36,Tryz.ntmps36
  go_wp2
  go_ret
  exact ⟨rfl,rfl⟩
 rw [if_neg h1] at hR
 have t1:(k == 1)=false:=beq_eq_false_iff_ne.2 h1
 by_cases h2:k=2
 ·subst h2
  rw [if_pos rfl] at hR
  subst hR
  go_enter Tryz.func36,Tryz.ntmps36
  go_wp2
  go_ret
  exact ⟨rfl,rfl⟩
 rw [if_neg h2] at hR
 have t2:(k == 2)=false:=beq_eq_false_iff_ne.2 h2
 by_cases h3:k=3
 ·subst h3
  rw [if_pos rfl] at hR
  subst hR
  go_enter Tryz.func36,Tryz.ntmps36
  go_wp2
  go_ret
  exact ⟨rfl,rfl⟩
 rw [if_neg h3] at hR
 have t3:(k == 3)=false:=beq_eq_false_iff_ne.2 h3
 subst hR
 clear h1 h2 h3
 go_enter Tryz.func36,Tryz.ntmps36
 go_wp2
 go_ret
 exact ⟨rfl,rfl⟩
theorem vg (k n:Int) (z:ByteArray) (w:World) (hk:Cel.In64 k) (hn:Cel.In64 n) (hz:z.size≤67108864) (hL:Laid w):
  Calls Tryz.prog 35 #[.int .i64 k, .int .i64 n, .string z] w fun e w'=>e= .returned (.string ⟨(Cy.scalar k n z.data.toList).toArray⟩)∧Below w.heap.size w w':=by
 obtain ⟨hk1,hk2⟩:=hk
 obtain ⟨R,hR⟩: ∃R,Cy.scalar k n z.data.toList=R:=⟨_,rfl⟩
 rw [hR]
 unfold Cy.scalar at hR
 have HL:=hq7 hL
 have HN:=hq7 hn
 clear hL
 by_cases h1:k=1
 ·subst h1
  rw [if_pos rfl] at hR
  by_cases hn1:n=1
  ·subst hn1
   rw [if_pos rfl] at hR
   subst hR
   go_enter Tryz.func35,Tryz.ntmps35
   go_wp2
   go_ret
   exact ⟨rfl,Below.refl _ _⟩
  ·rw [if_neg hn1] at hR
   subst hR
   have t1:(n == 1)=false:=beq_eq_false_iff_ne.2 hn1
   go_enter Tryz.func35,Tryz.ntmps35
   go_wp2
   go_ret
   exact ⟨rfl,Below.refl _ _⟩
 rw [if_neg h1] at hR
 have t1:(k == 1)=false:=beq_eq_false_iff_ne.2 h1
 by_cases h2:k=2
 ·subst h2
  rw [if_pos rfl] at hR
  subst hR
  go_enter Tryz.func35,Tryz.ntmps35
  go_wp2_with fail
  refine (sK n w HN.out.1 HN.out.2 HL.out).mono ?_
  rintro e w' ⟨rfl,hb⟩
  have HB:=hq7 hb
  clear hb
  go_wp2
  go_ret
  exact ⟨rfl,HB.out⟩
 rw [if_neg h2] at hR
 have t2:(k == 2)=false:=beq_eq_false_iff_ne.2 h2
 by_cases h3:k=3
 ·subst h3
  rw [if_pos rfl] at hR
  subst hR
  have hu:=pW n
  have hlt:=Cel.kV n
  obtain ⟨b,hb⟩: ∃b,Cel.u64 n=b:=⟨_,rfl⟩
  rw [hb] at hu hlt⊢
  have HLT:=hq7 hlt
  clear hlt hb
  go_enter Tryz.func35,Tryz.ntmps35
  go_wp2_with fail
  refine (Ie b w HLT.out HL.out).mono ?_
  rintro e w' ⟨rfl,hb⟩
  have HB:=hq7 hb
  clear hb
  go_wp2
  go_ret
  exact ⟨rfl,HB.out⟩
 rw [if_neg h3] at hR
 have t3:(k == 3)=false:=beq_eq_false_iff_ne.2 h3
 subst hR
 clear h1 h2 h3
 go_enter Tryz.func35,Tryz.ntmps35
 go_wp2_with fail
 refine (Lm z w hz).mono ?_
 rintro e w' ⟨rfl,hb⟩
 have HB:=hq7 hb
 clear hb
 go_wp2
 go_ret
 exact ⟨rfl,HB.out⟩
theorem vk (sep:List UInt8): ∀l:List (List UInt8),Lib.join l sep=Cy.join sep l
 | []=>rfl
 | [a]=>Lib.join_one a sep
 | a :: b :: r=>by
  rw [Cy.join,←vk sep (b :: r),Lib.join_cons,Lib.join_cons]
  simp [Lib.joinTail]
theorem Di (base T:Nat) (A:Option Addr) (c:Nat) (l:List (List UInt8)) (w:World) (n:Nat) (hn:l.length=n) (hn2:n≤1073741824) (h:w.ownsRow base T 1 (.slice A n c) n (l.map ST)) (hl:(Cy.join [44,32] l).length≤140737488355328):
  Calls Tryz.prog 37 #[.slice A n c, .string ⟨#[44,32]⟩] w fun e w'=>e= .returned (.string ⟨(Cy.join [44,32] l).toArray⟩)∧Below w.heap.size w w':=by
 have hr:=h
 rcases h.2 with ⟨he,h0⟩ |⟨g,cap,cur,he,h1,h2,h3,h4,h5,h6⟩
 ·subst h0
  obtain rfl:l= []:=List.length_eq_zero_iff.1 hn
  injection he with e1 e2 e3
  subst e1 e3
  refine (Tryz.strings_Join_none none 0 ⟨#[44,32]⟩ w).mono ?_
  rintro e w' ⟨rfl,rfl⟩
  exact ⟨rfl,Below.refl _ _⟩
 ·injection he with e1 e2 e3
  subst e1 e3
  have hm:(l.map fun x=>(⟨x.toArray⟩:ByteArray)).map (·.data.toList)=l:=by
   rw [List.map_map]
   conv=>rhs;rw [←List.map_id l]
   apply List.map_congr_left
   intro x _
   rfl
  obtain ⟨hi,hxx⟩:=Array.getElem?_eq_some_iff.1 h2
  have key:=Tryz.strings_Join g 0 c (l.map fun x=>(⟨x.toArray⟩:ByteArray)) ⟨#[44,32]⟩ w (fun j x hx=>by
   rw [List.getElem?_map] at hx
   obtain ⟨y,hy,rfl⟩:=Option.map_eq_some_iff.1 hx
   obtain ⟨hj,-⟩:=List.getElem?_eq_some_iff.1 hy
   obtain ⟨p,o,u,he,-,hu,hp⟩:=(Reads.dL hr).cell (k:=j) (by omega)
   injection he with he
   injection he with he1 he2
   subst he1 he2
   rw [List.getElem?_map,hy] at hu
   obtain rfl:=(Option.some.inj hu).symm
   exact hp) hi (by rw [List.length_map];omega) (by rw [List.length_map];omega) (by rw [hm,vk];exact hl)
  rw [List.length_map,hn,hm,vk] at key
  exact key
theorem Dj: ∀(x y:List UInt8),Op.bytesLess x y=decide (x<y)
 | [], []=>by simp [Op.bytesLess]
 | [],b :: y=>by simp [Op.bytesLess]
 | a :: x, []=>by simp [Op.bytesLess]
 | a :: x,b :: y=>by
  rw [Op.bytesLess,Dj x y,Bool.eq_iff_iff]
  simp only [List.cons_lt_cons_iff,decide_eq_true_eq,Bool.or_eq_true,Bool.and_eq_true,beq_iff_eq]
theorem nY (a b:List UInt8):(Op.bytesLess a b || a == b)=decide (a≤b):=by
 rw [Dj,Bool.eq_iff_iff]
 simp only [Bool.or_eq_true,decide_eq_true_eq,beq_iff_eq]
 exact Iff.symm List.le_iff_lt_or_eq
theorem jr (l:List UInt8):(⟨l.toArray⟩:ByteArray).toList=l:=by rw [Lib.toList_data]
theorem qG {κ α:Type} {f:Option κ→α→Nat} {key:α→κ} {l:List α} {n:Nat} (hn:l.length=n) {R:Nat} (hR:(Gr.first f key none l 0).1=R) (h: ∀j a,j<n→l[j]?=some a→f (Gr.aj key l j) a=0):R=0:=by
 rw [←hR,Gr.ku f key (fun j a hj=>h j a (by have:=(List.getElem?_eq_some_iff.1 hj).1;omega) hj)]
theorem kH {κ α:Type} {f:Option κ→α→Nat} {key:α→κ} {l:List α} {k:Nat} {a:α} {R e:Nat} (hR:(Gr.first f key none l 0).1=R) (ha:l[k]?=some a) (h: ∀j a,j<k→l[j]?=some a→f (Gr.aj key l j) a=0) (he:f (Gr.aj key l k) a=e) (hne:e≠0):R=e:=by
 rw [←hR,Gr.uf f key ha he hne h]
theorem jv {κ α:Type} {f:Option κ→α→Nat} {key:α→κ} {l:List α} {k:Nat} {a:α} (ha:l[k]?=some a) (h: ∀j a,j<k→l[j]?=some a→f (Gr.aj key l j) a=0) (he:f (Gr.aj key l k) a=0): ∀j a,j<k+1→l[j]?=some a→f (Gr.aj key l j) a=0:=fun j b hj hb=>by
 by_cases e:j=k
 ·subst e
  rw [ha] at hb
  cases hb
  exact he
 ·exact h j b (by omega) hb
theorem LD (B:Nat) (A:Option Addr) (c:Nat) (ls:List (List UInt8)) (w:World) (h:Reads w B 1 A ls.length (ls.map ST)) (hl:ls.length≤1073741824) (hs: ∀l∈ls,l.length≤1073741824):
  Calls Tryz.prog 134 #[.slice A ls.length c] w fun e w'=>e= .returned (.int .i64 (Gr.iF ls:Nat))∧w=w':=by
 obtain ⟨R,hR⟩: ∃R,Gr.iF ls=R:=⟨_,rfl⟩
 rw [hR]
 unfold Gr.iF at hR
 obtain ⟨n,hn⟩: ∃n,ls.length=n:=⟨_,rfl⟩
 rw [hn] at h hl hR⊢
 have HH:=hq7 h
 have HS:=hq7 hs
 have HN:=hq7 hn
 have HU:=hq7 iC
 by_cases h8:8<n
 ·rw [if_pos h8] at hR
  subst hR
  have h8i:(8:Int)<n:=by omega
  have t8:decide ((8:Int)<n)=true:=decide_eq_true h8i
  clear h h8 hs hl
  go_enter Tryz.func134,Tryz.ntmps134
  go_wp2
  go_ret
  exact ⟨rfl,rfl⟩
 rw [if_neg h8] at hR
 have HR:=hq7 hR
 have h8i:(n:Int)≤8:=by omega
 have t8:decide ((8:Int)<n)=false:=decide_eq_false (by omega)
 clear h h8 hs hl hR
 go_enter Tryz.func134,Tryz.ntmps134
 go_wp2_with fail
 go_loopg [10] n (fun g x wr=> ∃k:Nat,x= .int .i64 k∧k+g=n∧w=wr∧ ∀j a,j<k→ls[j]?=some a→Gr.labelWrong (Gr.aj id ls j) a=0)
 case atStart=>exact ⟨0,rfl,by omega,rfl,fun j a h=>by omega⟩
 case round=>
  obtain ⟨k,rfl,hk,rfl,hz⟩:=hrel
  have HK:=hq7 hk
  have HZ:=hq7 hz
  clear hz
  cases gk with
  | zero=>
   obtain rfl:k=n:=by omega
   have hr:=qG HN.out HR.out HZ.out
   have HRR:=hq7 hr
   clear hk hr
   go_wp2
   go_ret
   exact ⟨by rw [HRR.out];rfl,rfl⟩
  | succ g=>
   have hkn:k<n:=by omega
   have hknI:(k:Int)<n:=by omega
   obtain ⟨p,o,x,rfl,-,hx,hp⟩:=HH.out.cell hkn
   rw [List.getElem?_map] at hx
   obtain ⟨y,hy,rfl⟩:=Option.map_eq_some_iff.1 hx
   unfold ST at hp
   obtain ⟨z,hz⟩: ∃z:ByteArray,(⟨y.toArray⟩:ByteArray)=z:=⟨_,rfl⟩
   rw [hz] at hp
   have hzd:z.data.toList=y:=by rw [←hz]
   have hzl:z.size≤1073741824:=by rw [Lib.size_eq,hzd];exact HS.out y (List.mem_of_getElem? hy)
   have hcall:=lY z w hzl
   rw [hzd] at hcall
   have HY:=hq7 hy
   have HZD:=hq7 hzd
   cases hg:Gr.aI y with
   | false=>
    rw [hg] at hcall
    have HC:=hq7 hcall
    have hr:=kH HR.out HY.out HZ.out (e:=60) (by unfold Gr.labelWrong;rw [hg,if_pos rfl]) (by decide)
    have HRR:=hq7 hr
    clear hx hk hkn hy hz hzd hzl hcall hg hr
    go_wp2_with fail
    refine HC.out.mono ?_
    rintro e w' ⟨rfl,rfl⟩
    go_wp2
    go_ret
    exact ⟨by rw [HRR.out];rfl,rfl⟩
   | true=>
    rw [hg] at hcall
    have HC:=hq7 hcall
    have HGN:=hq7 hg
    by_cases h0:k=0
    ·subst h0
     rw [Nat.add_zero] at hp
     have hmore:=jv HY.out HZ.out (by unfold Gr.labelWrong;rw [hg,if_neg (by decide)];rfl)
     have HM:=hq7 hmore
     clear hx hk hkn hy hz hzd hzl hcall hg hmore
     go_wp2_with fail
     refine HC.out.mono ?_
     rintro e w' ⟨rfl,rfl⟩
     go_wp2
     go_roundg g
     case measure=>omega
     case rel=>exact ⟨1,rfl,by have:=HK.out;omega,rfl,HM.out⟩
    ·obtain ⟨m,rfl⟩: ∃m,k=m+1:=⟨k - 1,by omega⟩
     obtain ⟨p',o',x',he,-,hx',hp'⟩:=HH.out.cell (k:=m) (by omega)
     injection he with he
     injection he with he1 he2
     subst he1
     subst he2
     rw [List.getElem?_map] at hx'
     obtain ⟨q,hq,rfl⟩:=Option.map_eq_some_iff.1 hx'
     unfold ST at hp'
     obtain ⟨zq,hzq⟩: ∃z:ByteArray,(⟨q.toArray⟩:ByteArray)=z:=⟨_,rfl⟩
     have hzqd:zq.toList=q:=by rw [←hzq,jr]
     rw [hzq] at hp'
     obtain ⟨b1,hb1⟩: ∃b,Op.bytesLess z.toList zq.toList=b:=⟨_,rfl⟩
     obtain ⟨b2,hb2⟩: ∃b,(z.toList == zq.toList)=b:=⟨_,rfl⟩
     have hb:decide (y≤q)=(b1 || b2):=by rw [←hb1,←hb2,nY,hzqd,Lib.toList_data,hzd]
     have hmI:(1:Int)≤((m+1:Nat):Int):=by omega
     have hm0:decide ((0:Int)<((m+1:Nat):Int))=true:=decide_eq_true (by omega)
     have hsub:((m+1:Nat):Int) - 1=(m:Int):=by omega
     have hlw:Gr.labelWrong (Gr.aj id ls (m+1)) y=if (b1 || b2)=true then 6 else 0:=by
      have hpv:Gr.aj id ls (m+1)=some q:=by show ls[m]?.map id=_;rw [hq];rfl
      unfold Gr.labelWrong
      rw [hg,hpv,if_neg (by decide),←hb]
      rfl
     have HLW:=hq7 hlw
     clear hx hx' hq hk hkn hy hz hzd hzl hcall hg hlw hb h0 hzq hzqd
     go_wp2_with fail
     refine HC.out.mono ?_
     rintro e w' ⟨rfl,rfl⟩
     have HSTOP:=hq7 (show (b1 || b2)=true→R=6 from fun h=>kH HR.out HY.out HZ.out (e:=6) (by rw [HLW.out,h];rfl) (by decide))
     cases b1 with
     | true=>
      have hr:=HSTOP.out rfl
      have HRR:=hq7 hr
      clear hr
      go_wp2
      go_ret
      exact ⟨by rw [HRR.out];rfl,rfl⟩
     | false=>
      cases b2 with
      | true=>
       have hr:=HSTOP.out rfl
       have HRR:=hq7 hr
       clear hr
       go_wp2
       go_ret
       exact ⟨by rw [HRR.out];rfl,rfl⟩
      | false=>
       have hmore:=jv HY.out HZ.out (by rw [HLW.out];rfl)
       have HM:=hq7 hmore
       clear hmore
       go_wp2
       go_roundg g
       case measure=>omega
       case rel=>exact ⟨m+1+1,int_eq (by omega),by have:=HK.out;omega,rfl,HM.out⟩
theorem Lst.prop {W:World} {B:Nat} {A:Option Addr} {l:List Gr.P} (h:Lst W B 6 (aB W B) A l) {k:Nat} {p:Gr.P} (hk:l[k]?=some p): ∃b o An cn At ct,A=some ⟨b,o,none⟩∧b<B∧
  (W.cell? ⟨b,o+k*6,none⟩=some (ST p.key)∧W.cell? ⟨b,o+k*6+1,none⟩=some (.int .i64 p.val.kind)∧W.cell? ⟨b,o+k*6+2,none⟩=some (.int .i64 p.val.num)∧W.cell? ⟨b,o+k*6+3,none⟩=some (ST p.val.text)∧
  W.cell? ⟨b,o+k*6+4,none⟩=some (.slice An p.val.nums.length cn)∧W.cell? ⟨b,o+k*6+5,none⟩=some (.slice At p.val.texts.length ct))∧Reads W B 1 An p.val.nums.length (p.val.nums.map I64)∧Reads W B 1 At p.val.texts.length (p.val.texts.map ST):=by
 obtain ⟨b,o,cs,hA,hb,⟨An,cn,At,ct,rfl,h1,h2⟩,-,hc⟩:=h k p hk
 exact ⟨b,o,An,cn,At,ct,hA,hb,⟨hc 0 _ rfl,hc 1 _ rfl,hc 2 _ rfl,hc 3 _ rfl,hc 4 _ rfl,hc 5 _ rfl⟩,h1,h2⟩
theorem jO {W:World} {B:Nat} {v:Cel.V} {An At:Option Addr} {cn ct:Nat} (hv:VOk v) (h1:Reads W B 1 An v.nums.length (v.nums.map I64)) (h2:Reads W B 1 At v.texts.length (v.texts.map ST)):
  VIn W B (.agg #[.int .i64 v.kind, .int .i64 v.num,ST v.text, .slice An v.nums.length cn, .slice At v.texts.length ct]) v:=
 ⟨⟨An,cn,At,ct,rfl,h1,h2⟩,hv.kin,hv.num,hv.nums,hv.tl,hv.nl,hv.sl,hv.sz⟩
theorem fG {a b w:World} (h:Below a.heap.size a b) (k:Below b.heap.size b w):Below a.heap.size a w:=h.trans (k.mono h.size)
theorem cells6 {W:World} {b:Nat} {T:TypeId} {v0 v1 v2 v3 v4 v5:Value} (h:Blk W b T #[v0,v1,v2,v3,v4,v5]):
  W.cell? ⟨b,0,none⟩=some v0∧W.cell? ⟨b,1,none⟩=some v1∧W.cell? ⟨b,2,none⟩=some v2∧W.cell? ⟨b,3,none⟩=some v3∧W.cell? ⟨b,4,none⟩=some v4∧W.cell? ⟨b,5,none⟩=some v5:=
 ⟨h.cell 0,h.cell 1,h.cell 2,h.cell 3,h.cell 4,h.cell 5⟩
theorem cells5 {W:World} {b:Nat} {T:TypeId} {v0 v1 v2 v3 v4:Value} (h:Blk W b T #[v0,v1,v2,v3,v4]):
  W.cell? ⟨b,0,none⟩=some v0∧W.cell? ⟨b,1,none⟩=some v1∧W.cell? ⟨b,2,none⟩=some v2∧W.cell? ⟨b,3,none⟩=some v3∧W.cell? ⟨b,4,none⟩=some v4:=
 ⟨h.cell 0,h.cell 1,h.cell 2,h.cell 3,h.cell 4⟩
theorem cells3 {W:World} {b:Nat} {T:TypeId} {v0 v1 v2:Value} (h:Blk W b T #[v0,v1,v2]):W.cell? ⟨b,0,none⟩=some v0∧W.cell? ⟨b,1,none⟩=some v1∧W.cell? ⟨b,2,none⟩=some v2:=
 ⟨h.cell 0,h.cell 1,h.cell 2⟩
theorem cells2 {W:World} {b:Nat} {T:TypeId} {v0 v1:Value} (h:Blk W b T #[v0,v1]):W.cell? ⟨b,0,none⟩=some v0∧W.cell? ⟨b,1,none⟩=some v1:=
 ⟨h.cell 0,h.cell 1⟩
theorem Dk (B:Nat) (A:Option Addr) (c:Nat) (ps:List Gr.P) (w:World) (h:Lst w B 6 (aB w B) A ps) (hB:B≤w.heap.size) (hl:ps.length≤1073741824) (hs: ∀p∈ps,POk p):
  Calls Tryz.prog 135 #[.slice A ps.length c] w fun e w'=>e= .returned (.int .i64 (Gr.aQ ps:Nat))∧Below w.heap.size w w':=by
 obtain ⟨R,hR⟩: ∃R,Gr.aQ ps=R:=⟨_,rfl⟩
 rw [hR]
 unfold Gr.aQ at hR
 obtain ⟨n,hn⟩: ∃n,ps.length=n:=⟨_,rfl⟩
 rw [hn] at hl hR⊢
 have HH:=hq7 h
 have HS:=hq7 hs
 have HN:=hq7 hn
 have HU:=hq7 iC
 by_cases h8:16<n
 ·rw [if_pos h8] at hR
  subst hR
  have h8i:(16:Int)<n:=by omega
  have t8:decide ((16:Int)<n)=true:=decide_eq_true h8i
  clear h h8 hs hl
  go_enter Tryz.func135,Tryz.ntmps135
  go_wp2
  go_ret
  exact ⟨rfl,Below.refl _ _⟩
 rw [if_neg h8] at hR
 have HR:=hq7 hR
 have h8i:(n:Int)≤16:=by omega
 have t8:decide ((16:Int)<n)=false:=decide_eq_false (by omega)
 clear h h8 hs hl hR
 go_enter Tryz.func135,Tryz.ntmps135
 go_wp2_with fail
 go_loopg [11] n (fun g x wr=> ∃k:Nat,x= .int .i64 k∧k+g=n∧Below w.heap.size w wr∧ ∀j a,j<k→ps[j]?=some a→Gr.dN (Gr.aj Gr.P.key ps j) a=0)
 case atStart=>exact ⟨0,rfl,by omega,Below.refl _ _,fun j a h=>by omega⟩
 case round=>
  obtain ⟨k,rfl,hk,hb,hz⟩:=hrel
  have HK:=hq7 hk
  have HZ:=hq7 hz
  have HB:=hq7 hb
  clear hz hb
  cases gk with
  | zero=>
   obtain rfl:k=n:=by omega
   have hr:=qG HN.out HR.out HZ.out
   have HRR:=hq7 hr
   clear hk hr
   go_wp2
   go_ret
   exact ⟨by rw [HRR.out];rfl,HB.out⟩
  | succ g=>
   have hkn:k<n:=by omega
   have hknI:(k:Int)<n:=by omega
   obtain ⟨p,hp⟩: ∃p,ps[k]?=some p:=⟨_,List.getElem?_eq_getElem (by rw [HN.out];exact hkn)⟩
   have HP:=hq7 hp
   have hLB:=HH.out.below (HB.out.mono hB) (aB.below (HB.out.mono hB))
   obtain ⟨b,o,An,cn,At,ct,rfl,hbB,⟨c0,c1,c2,c3,c4,c5⟩,r1,r2⟩:=hLB.prop hp
   obtain ⟨z,hz⟩: ∃z:ByteArray,(⟨p.key.toArray⟩:ByteArray)=z:=⟨_,rfl⟩
   obtain ⟨zt,hzt⟩: ∃z:ByteArray,(⟨p.val.text.toArray⟩:ByteArray)=z:=⟨_,rfl⟩
   unfold ST at c0 c3
   rw [hz] at c0
   rw [hzt] at c3
   clear hp hk hkn
   have hpok:=HS.out p (List.mem_of_getElem? HP.out)
   obtain ⟨W1,hW1⟩: ∃W1,wr.alloc (.cells #[.string z, .int .i64 p.val.kind, .int .i64 p.val.num, .string zt, .slice An p.val.nums.length cn, .slice At p.val.texts.length ct] 61)=W1:=⟨_,rfl⟩
   have hb1:Below wr.heap.size wr W1:=by rw [←hW1];exact (Below.refl _ wr).alloc (Nat.le_refl _) _
   have k1:Blk W1 wr.heap.size 61 #[.string z, .int .i64 p.val.kind, .int .i64 p.val.num, .string zt, .slice An p.val.nums.length cn, .slice At p.val.texts.length ct]:=by rw [←hW1];exact Blk.new _ _ _
   have hBW:Below w.heap.size w W1:=HB.out.trans (hb1.mono HB.out.size)
   have hBr:B≤wr.heap.size:=Nat.le_trans hB HB.out.size
   have hvin:=fun (m:Nat)=>((jO (cn:=cn) (ct:=ct) hpok.val r1 r2).below (hb1.mono hBr)).below (below_drewN (Below.refl B W1) m)
   unfold ST at hvin
   rw [hzt] at hvin
   have hcheck:=fun (m:Nat)=>check_any B _ p.val (W1.drewN m) (hvin m) (Nat.le_trans hBr hb1.size)
   have HCK:=hq7 hcheck
   have hzd:z.data.toList=p.key:=by rw [←hz]
   have hcall:=lY z W1 (by rw [Lib.size_eq,hzd];exact hpok.key)
   rw [hzd] at hcall
   have HW1:=hq7 hW1
   have HBW:=hq7 hBW
   have hd:=cells6 k1
   have HD:=hq7 hd
   have HHP:Hid (∀q:Gr.P,∀m:Nat,m<n→ps[m]?=some q→W1.cell? ⟨b,o+m*6,none⟩=some (ST q.key)):=fun q m hm hq=>by
    obtain ⟨b',o',_,_,_,_,he,hlt,⟨e0,-⟩,-⟩:=hLB.prop hq
    injection he with he
    injection he with he1 he2
    subst he1
    subst he2
    exact ((hb1.mono hBr).cell (by exact hlt)).trans e0
   obtain ⟨Nm,hNm⟩: ∃b,Gr.aI p.key=b:=⟨_,rfl⟩
   rw [hNm] at hcall
   have HC:=hq7 hcall
   have HNM:=hq7 hNm
   have HZD:=hq7 hzd
   obtain ⟨CV,hCV⟩: ∃CV,Cel.check p.val=CV:=⟨_,rfl⟩
   rw [hCV] at HCK
   have HCV:=hq7 hCV
   clear hW1 hb1 k1 hBW hvin hcheck hcall hNm hCV hz hzt hzd hLB r1 r2 hBr hpok hbB hd
   go_upto_region 6 with fail
   rw [HW1.out]
   clear c0 c1 c2 c3 c4 c5 HW1
   obtain ⟨d0,d1,d2,d3,d4,d5⟩:=HD.out
   go_wp2_with fail
   refine HC.out.mono ?_
   rintro e w' ⟨rfl,rfl⟩
   cases Nm with
   | false=>
    have hr:=kH HR.out HP.out HZ.out (e:=60) (by unfold Gr.dN;rw [HNM.out,if_pos rfl]) (by decide)
    have HRR:=hq7 hr
    clear hr
    go_wp2
    go_ret
    exact ⟨by rw [HRR.out];rfl,HBW.out⟩
   | true=>
    have HCONT:=hq7 (fun (h:Gr.dN (Gr.aj Gr.P.key ps k) p=0)=>jv HP.out HZ.out h)
    have HSTOP:=hq7 (fun (e:Nat) (h:Gr.dN (Gr.aj Gr.P.key ps k) p=e) (hne:e≠0)=>kH HR.out HP.out HZ.out h hne)
    by_cases h0:k=0
    ·have hk0:(k:Int)≤0:=by omega
     have tk:decide (0<k)=false:=decide_eq_false (by omega)
     have hpw:Gr.dN (Gr.aj Gr.P.key ps k) p=CV:=by
      subst h0
      unfold Gr.dN
      rw [HNM.out,if_neg (by decide),if_neg (by simp [Gr.aj]),HCV.out]
     have HPW:=hq7 hpw
     clear h0 hpw
     go_upto_region 8 with fail
     go_quiet (fail)
     go_wp2_with fail
     refine (HCK.out _).mono ?_
     rintro e w4 ⟨rfl,hb4⟩
     have HB4:=hq7 (fG (below_drewN HBW.out nq) hb4)
     clear hb4
     cases CV with
     | zero=>
      have HM:=hq7 (HCONT.out HPW.out)
      go_wp2
      go_roundg g
      case measure=>omega
      case rel=>exact ⟨k+1,int_eq (by omega),by have:=HK.out;omega,HB4.out,HM.out⟩
     | succ e=>
      have hr:=HSTOP.out (e+1) HPW.out (by omega)
      have HRR:=hq7 hr
      have hne:(((e+1:Nat):Int) !=0)=true:=by rw [bne_iff_ne];omega
      clear hr
      go_wp2
      go_ret
      exact ⟨by rw [HRR.out];rfl,HB4.out⟩
    ·obtain ⟨m,hm⟩: ∃m,k=m+1:=⟨k - 1,by omega⟩
     have tk:decide (0<k)=true:=decide_eq_true (by omega)
     have hkp:(0:Int)<k:=by omega
     have hsub:(k:Int) - 1=(m:Int):=by omega
     have hmn:(m:Int)<n:=by omega
     have hmn':m<n:=by omega
     obtain ⟨q,hq⟩: ∃q,ps[m]?=some q:=⟨_,List.getElem?_eq_getElem (by omega)⟩
     have e0:=HHP.out q m hmn' hq
     unfold ST at e0
     obtain ⟨zq,hzq⟩: ∃z:ByteArray,(⟨q.key.toArray⟩:ByteArray)=z:=⟨_,rfl⟩
     have hzqd:zq.toList=q.key:=by rw [←hzq,jr]
     rw [hzq] at e0
     obtain ⟨b1,hb1⟩: ∃b,Op.bytesLess z.toList zq.toList=b:=⟨_,rfl⟩
     obtain ⟨b2,hb2⟩: ∃b,(z.toList == zq.toList)=b:=⟨_,rfl⟩
     have hb:decide (p.key≤q.key)=(b1 || b2):=by rw [←hb1,←hb2,nY,hzqd,Lib.toList_data,HZD.out]
     have hpw:Gr.dN (Gr.aj Gr.P.key ps k) p=if (b1 || b2)=true then 6 else CV:=by
      have hpv:Gr.aj Gr.P.key ps k=some q.key:=by rw [hm];show ps[m]?.map Gr.P.key=_;rw [hq];rfl
      unfold Gr.dN
      rw [HNM.out,hpv,if_neg (by decide),←hb,HCV.out]
      rfl
     have HPW:=hq7 hpw
     clear h0 hpw hq hzq hzqd hb hm hmn'
     have HTL:=hq7 (show (b1 || b2)=true→R=6 from fun h=>HSTOP.out 6 (by rw [HPW.out,h];rfl) (by decide))
     cases b1 with
     | true=>
      have hr:=HTL.out rfl
      have HRR:=hq7 hr
      clear hr
      go_upto_region 8 with fail
      go_quiet (fail)
      go_wp2
      go_ret
      exact ⟨by rw [HRR.out];rfl,below_drewN HBW.out _⟩
     | false=>
      cases b2 with
      | true=>
       have hr:=HTL.out rfl
       have HRR:=hq7 hr
       clear hr
       go_upto_region 8 with fail
       go_quiet (fail)
       go_wp2
       go_ret
       exact ⟨by rw [HRR.out];rfl,below_drewN HBW.out _⟩
      | false=>
       go_upto_region 8 with fail
       go_quiet (fail)
       go_wp2_with fail
       refine (HCK.out _).mono ?_
       rintro e w4 ⟨rfl,hb4⟩
       have HB4:=hq7 (fG (below_drewN HBW.out nq) hb4)
       clear hb4
       cases CV with
       | zero=>
        have HM:=hq7 (HCONT.out HPW.out)
        go_wp2
        go_roundg g
        case measure=>omega
        case rel=>exact ⟨k+1,int_eq (by omega),by have:=HK.out;omega,HB4.out,HM.out⟩
       | succ e=>
        have hr:=HSTOP.out (e+1) HPW.out (by omega)
        have HRR:=hq7 hr
        have hne:(((e+1:Nat):Int) !=0)=true:=by rw [bne_iff_ne];omega
        clear hr
        go_wp2
        go_ret
        exact ⟨by rw [HRR.out];rfl,HB4.out⟩
end Go.Proofs.YtoofbflplhbpbaaGreatDoor
