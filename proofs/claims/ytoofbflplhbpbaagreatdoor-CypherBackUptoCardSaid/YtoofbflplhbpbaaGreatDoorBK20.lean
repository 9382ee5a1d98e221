/- Contracts and plain laws,part 20. -/
import Derived.Test.YtoofbflplhbpbaaGreatDoorBK16
import Derived.Test.YtoofbflplhbpbaaGreatDoorBK19
set_option maxHeartbeats 64000000
set_option maxRecDepth 1000000
set_option linter.all false
namespace Go.Proofs.YtoofbflplhbpbaaGreatDoor
open Go.RowKit
attribute [local go_sem] Oper.semAt_some
def SYN:List PanicEntry:= [{v:= .iface 140 (.agg #[]),recovered:=false}]
structure RS (q0:Nat×Nat) (b:Nat) (l:List Lex.Tok) (w:World):Prop where
 ex: ∃A n c k ts,Blk w b 144 #[.slice A n c, .int .i64 (k:Nat)]∧ts.length=n∧ts.drop k=l∧k≤n∧n≤16777216∧Reads w (min b q0.2) 4 A n (fF ts)
 ok: ∀t∈l,Cy.dW t
 tot: ∃A c v,Blk w b 144 #[.slice A q0.1 c,v]
theorem RS.kept {q0:Nat×Nat} {b:Nat} {l:List Lex.Tok} {w w':World} (h:RS q0 b l w) (hb:Below w.heap.size w w'):RS q0 b l w':=by
 obtain ⟨A,n,c,k,ts,hk,h1,h2,h3,h4,h5⟩:=h.ex
 exact ⟨⟨A,n,c,k,ts,hk.below hb hk.lt,h1,h2,h3,h4,h5.below (hb.mono (by have:=hk.lt;omega))⟩,h.ok,by obtain ⟨A,c,v,ht⟩:=h.tot;exact ⟨A,c,v,ht.below hb ht.lt⟩⟩
theorem RS.lt {q0:Nat×Nat} {b:Nat} {l:List Lex.Tok} {w:World} (h:RS q0 b l w):b<w.heap.size:=by
 obtain ⟨A,n,c,k,ts,hk,-⟩:=h.ex
 exact hk.lt
theorem Ls {w:World} {B:Nat} {A:Option Addr} {ts:List Lex.Tok} (h:Reads w B 4 A ts.length (fF ts)) {k:Nat} {t:Lex.Tok} (hk:ts[k]?=some t):
  ∃g o,A=some ⟨g,o,none⟩∧g<B∧w.cell? ⟨g,o+k*4,none⟩=some (.int .i64 (t.kind:Int))∧w.cell? ⟨g,o+k*4+1,none⟩=some (.string ⟨t.text.toArray⟩)∧w.cell? ⟨g,o+k*4+2,none⟩=some (.int .i64 t.num)∧w.cell? ⟨g,o+k*4+3,none⟩=some (.int .i64 (t.pos:Int)):=by
 obtain ⟨hlt,-⟩:=List.getElem?_eq_some_iff.1 hk
 obtain ⟨g,o,e,hg,hc⟩:=h.2 (by omega)
 have key: ∀j u,j<4→(kG t)[j]?=some u→w.cell? ⟨g,o+k*4+j,none⟩=some u:=fun j u hj hu=>by
  have:=hc (k*4+j) u (by rw [CG ts k t j hj hk];exact hu)
  rwa [←Nat.add_assoc] at this
 exact ⟨g,o,e,hg,key 0 _ (by omega) rfl,key 1 _ (by omega) rfl,key 2 _ (by omega) rfl,key 3 _ (by omega) rfl⟩
def fP:Lex.Tok:=⟨0, [],0,0⟩
def tokV1 (t:Lex.Tok):Value:= .agg #[.int .i64 (t.kind:Int), .string ⟨t.text.toArray⟩, .int .i64 t.num, .int .i64 (t.pos:Int)]
theorem lX {q0:Nat×Nat} (b:Nat) (l:List Lex.Tok) (w:World) (h:RS q0 b l w):
  Calls Tryz.prog 144 #[.pointer (some ⟨b,0,none⟩)] w fun e w'=>e= .returned (tokV1 (l.headD fP))∧Below w.heap.size w w':=by
 obtain ⟨A,n,c,k,ts,hk,h1,h2,h3,h4,h5⟩:=h.ex
 clear h
 have a0:w.cell? ⟨b,0,none⟩=some (.slice A n c):=hk.cell 0
 have a1:w.cell? ⟨b,1,none⟩=some (.int .i64 (k:Nat)):=hk.cell 1
 have hlt:=hk.lt
 rw [←h1] at h5
 rcases Nat.lt_or_ge k n with hkn | hge
 ·have hkt:ts[k]?=some (l.headD fP):=by
   rw [←h2]
   have hk':k<ts.length:=by omega
   rw [List.drop_eq_getElem_cons hk',List.headD_cons,List.getElem?_eq_getElem hk']
  obtain ⟨t,ht⟩: ∃t,l.headD fP=t:=⟨_,rfl⟩
  rw [ht] at hkt⊢
  obtain ⟨g,o,rfl,hg,d0,d1,d2,d3⟩:=Ls h5 hkt
  unfold tokV1
  have hkI:(k:Int)<n:=by omega
  have hk0:(0:Int)≤k:=by omega
  have hgw:g<w.heap.size:=by omega
  clear h1 h2 h3 h5 ht hk hkt
  go_enter Tryz.func144,Tryz.ntmps144
  go_wp2_with fail
  go_quiet (fail)
  go_wp2_with fail
  refine Lp 10 (by kernel_rfl) (by kernel_rfl) ?_
  simp only [List.take_succ_cons,List.take_zero,List.drop_succ_cons,List.drop_zero]
  repeat (quiet_step (fail))
  refine wpQuiet_nil ?_
  rintro _ ⟨m,rfl⟩
  go_wp2
  exact bodyPost_ret (v:= .agg #[.int .i64 (t.kind:Int), .string ⟨t.text.toArray⟩, .int .i64 t.num, .int .i64 (t.pos:Int)]) (by simp [results,Tryz.results144,go_sem]) rfl
   ⟨rfl,((((below_drewN ((Below.refl _ _).alloc (Nat.le_refl _) _) (nq+m)).setCell (by simp) _).setCell (by simp) _).setCell (by simp) _).setCell (by simp) _⟩
 ·have hl:l= []:=by rw [←h2];exact List.drop_eq_nil_of_le (by omega)
  subst hl
  have hkI:(n:Int)≤k:=by omega
  clear h1 h2 h3 h5 hk
  unfold tokV1 fP
  go_enter Tryz.func144,Tryz.ntmps144
  go_wp2_with fail
  go_quiet (fail)
  go_wp2
  exact bodyPost_ret (v:= .agg #[.int .i64 0, .string ⟨#[]⟩, .int .i64 0, .int .i64 0]) (by simp [results,Tryz.results144,go_sem]) rfl
   ⟨rfl,((((below_drewN ((Below.refl _ _).alloc (Nat.le_refl _) _) nq).setCell (by simp) _).setCell (by simp) _).setCell (by simp) _).setCell (by simp) _⟩
def hv (kd:Nat) (m:List UInt8):List Lex.Tok→Option (List Lex.Tok)
 | []=>none
 | t :: r=>if t.kind=kd∧t.text=m then some r else none
theorem Lu (m:List UInt8) (l:List Lex.Tok):hv 5 m l=Cy.mark m l:=by cases l<;> rfl
theorem RS.next {q0:Nat×Nat} {b:Nat} {t:Lex.Tok} {r:List Lex.Tok} {w:World} (h:RS q0 b (t :: r) w):
  ∃k:Nat,w.cell? ⟨b,1,none⟩=some (.int .i64 (k:Nat))∧w.frozen? ⟨b,1,none⟩=false∧k<1073741824∧RS q0 b r (w.setCell ⟨b,1,none⟩ (.int .i64 ((k:Int)+1))):=by
 obtain ⟨A,n,c,k,ts,hk,h1,h2,h3,h4,h5⟩:=h.ex
 have hkn:k<n:=by
  rcases Nat.lt_or_ge k n with hlt | hge
  ·exact hlt
  ·rw [List.drop_eq_nil_of_le (by omega)] at h2;cases h2
 refine ⟨k,hk.cell 1,hk.frozen 1,by omega,⟨⟨A,n,c,k+1,ts, ?_,h1, ?_,by omega,h4, ?_⟩,fun x hx=>h.ok x (List.mem_cons_of_mem _ hx),by obtain ⟨A,c,v,ht⟩:=h.tot;exact ⟨A,c, .int .i64 ((k:Int)+1),(ht.ay 1 (.int .i64 ((k:Int)+1))).cast (by simp)⟩⟩⟩
 ·have:=hk.ay 1 (.int .i64 ((k:Int)+1))
  simpa using this
 ·rw [List.drop_eq_getElem_cons (by omega)] at h2
  exact (List.cons.inj h2).2
 ·exact h5.below ((Below.refl _ w).setCell (p:=⟨b,1,none⟩) (show min b q0.2≤b by omega) _)
theorem RS.step {q0:Nat×Nat} {b:Nat} {l:List Lex.Tok} {w w':World} (h:RS q0 b l w) (hb:Below w.heap.size w w') (o:Obj):RS q0 b l (w'.alloc o):=h.kept (hb.alloc hb.size o)
theorem dR (p:Value) (w:World):Calls Tryz.prog 85 #[p, .bool true] w fun e w'=>e= .returned (.tuple #[])∧w=w':=by
 go_enter Tryz.func85,Tryz.ntmps85
 go_wp2
 go_end0
 exact ⟨rfl,rfl⟩
theorem dX (p:Value) (w:World):Calls Tryz.prog 85 #[p, .bool false] w fun e w'=>e= .panicked SYN∧w=w':=by
 go_enter Tryz.func85,Tryz.ntmps85
 go_wp2
 exact ⟨rfl,rfl,rfl⟩
theorem CU {q0:Nat×Nat} (b kd:Nat) (z:ByteArray) (l:List Lex.Tok) (w:World) (h:RS q0 b l w) (hkd:kd≠0):
  Calls Tryz.prog 86 #[.pointer (some ⟨b,0,none⟩), .int .i64 (kd:Nat), .string z] w fun e w'=>e= .returned (.bool (hv kd z.data.toList l).isSome)∧RS q0 b ((hv kd z.data.toList l).getD l) w'∧w.grownBy w' (some b):=by
 have HP:=hq7 (lX b l w h)
 obtain ⟨t,ht⟩: ∃t,l.headD fP=t:=⟨_,rfl⟩
 rw [ht] at HP
 unfold tokV1 at HP
 obtain ⟨zt,hzt⟩: ∃zt:ByteArray,(⟨t.text.toArray⟩:ByteArray)=zt:=⟨_,rfl⟩
 rw [hzt] at HP
 have hztd:zt.data.toList=t.text:=by rw [←hzt]
 have HR:=hq7 h
 clear h hzt
 by_cases hk:t.kind=kd
 case neg=>
  have hnone:hv kd z.data.toList l=none:=by
   cases l with
   | nil=>rfl
   | cons u r=>rw [hv,if_neg];rintro ⟨h1,-⟩;rw [List.headD_cons] at ht;exact hk (ht▸h1)
  rw [hnone]
  have t1:((t.kind:Int) ==(kd:Nat))=false:=beq_eq_false_iff_ne.2 (by omega)
  have t2:((t.kind:Int) !=(kd:Nat))=true:=by rw [bne_iff_ne];omega
  clear ht hnone hk hztd
  go_enter Tryz.func86,Tryz.ntmps86
  go_wp2_with fail
  refine HP.out.mono ?_
  rintro e w1 ⟨rfl,hb⟩
  have HB:=hq7 hb
  clear hb
  go_wp2
  go_ret
  exact ⟨rfl,HR.out.step HB.out _,bJ (HB.out.alloc HB.out.size _) _⟩
 subst hk
 have hkk:((t.kind:Int) !=(t.kind:Int))=false:=by simp
 by_cases hz:t.text=z.data.toList
 case neg=>
  have hnone:hv t.kind z.data.toList l=none:=by
   cases l with
   | nil=>rfl
   | cons u r=>rw [hv,if_neg];rintro ⟨-,h1⟩;rw [List.headD_cons] at ht;exact hz (ht▸h1)
  rw [hnone]
  have t3:(zt.toList == z.toList)=false:=beq_eq_false_iff_ne.2 (by rw [Lib.toList_data,Lib.toList_data,hztd];exact hz)
  clear ht hnone hz hztd hkd
  go_enter Tryz.func86,Tryz.ntmps86
  go_wp2_with fail
  refine HP.out.mono ?_
  rintro e w1 ⟨rfl,hb⟩
  have HB:=hq7 hb
  clear hb
  go_wp2
  go_ret
  exact ⟨rfl,HR.out.step HB.out _,bJ (HB.out.alloc HB.out.size _) _⟩
 ·obtain ⟨r,rfl⟩: ∃r,l=t :: r:=by
   cases l with
   | nil=>rw [List.headD_nil] at ht;rw [←ht] at hkd;exact absurd rfl hkd
   | cons u r=>rw [List.headD_cons] at ht;exact ⟨r,by rw [ht]⟩
  have hsome:hv t.kind z.data.toList (t :: r)=some r:=by rw [hv,if_pos ⟨rfl,hz⟩]
  rw [hsome]
  have t3:(zt.toList == z.toList)=true:=beq_iff_eq.2 (by rw [Lib.toList_data,Lib.toList_data,hztd];exact hz)
  clear ht hsome hz hztd hkd
  go_enter Tryz.func86,Tryz.ntmps86
  go_wp2_with fail
  refine HP.out.mono ?_
  rintro e w1 ⟨rfl,hb⟩
  obtain ⟨W2,hW2⟩: ∃W2,w1.alloc (.cells #[.int .i64 (t.kind:Int), .string zt, .int .i64 t.num, .int .i64 (t.pos:Int)] 138)=W2:=⟨_,rfl⟩
  have hr2:RS q0 b (t :: r) W2:=by rw [←hW2];exact HR.out.step hb _
  have hg2:w.grownBy W2 (some b):=by rw [←hW2];exact bJ (hb.alloc hb.size _) _
  have hk2:Blk W2 w1.heap.size 138 #[.int .i64 (t.kind:Int), .string zt, .int .i64 t.num, .int .i64 (t.pos:Int)]:=by rw [←hW2];exact Blk.new _ _ _
  obtain ⟨k,e1,e2,e3,e4⟩:=hr2.next
  have HG:=hq7 hg2
  have HN:=hq7 e4
  have HW2:=hq7 hW2
  have d0:W2.cell? ⟨w1.heap.size,0,none⟩=some (.int .i64 (t.kind:Int)):=hk2.cell 0
  have d1:W2.cell? ⟨w1.heap.size,1,none⟩=some (.string zt):=hk2.cell 1
  have hki:(k:Int)<1073741824:=by omega
  clear hW2 hr2 hg2 hk2 e4 e3 hb
  go_upto_region 2 with fail
  rw [HW2.out]
  go_wp2
  go_ret
  exact ⟨rfl,HN.out,ny HG.out (.inl rfl) _⟩
theorem RS.raw {q0:Nat×Nat} {b:Nat} {l:List Lex.Tok} {w:World} (h:RS q0 b l w): ∃k:Nat,w.cell? ⟨b,1,none⟩=some (.int .i64 (k:Nat))∧w.frozen? ⟨b,1,none⟩=false∧k<1073741824:=by
 obtain ⟨A,n,c,k,ts,hk,h1,h2,h3,h4,h5⟩:=h.ex
 exact ⟨k,hk.cell 1,hk.frozen 1,by omega⟩
theorem CW {q0:Nat×Nat} (b:Nat) (z:ByteArray) (l:List Lex.Tok) (w:World) (h:RS q0 b l w):
  Calls Tryz.prog 88 #[.pointer (some ⟨b,0,none⟩), .string z] w fun e w'=>e= .returned (.bool (Cy.mark z.data.toList l).isSome)∧RS q0 b ((Cy.mark z.data.toList l).getD l) w'∧w.grownBy w' (some b):=by
 have HC:=hq7 (CU b 5 z l w h (by decide))
 rw [Lu] at HC
 obtain ⟨m,hm⟩: ∃m,Cy.mark z.data.toList l=m:=⟨_,rfl⟩
 rw [hm] at HC⊢
 clear hm h
 go_enter Tryz.func88,Tryz.ntmps88
 go_wp2_with fail
 refine HC.out.mono ?_
 rintro e w1 ⟨rfl,h1,h2⟩
 have H1:=hq7 h1
 have H2:=hq7 h2
 clear h1 h2
 go_wp2
 go_ret
 exact ⟨rfl,H1.out,H2.out⟩
theorem dJ {q0:Nat×Nat} {b:Nat} {z:ByteArray} {l r:List Lex.Tok} {w:World} (h:RS q0 b l w) (hm:Cy.mark z.data.toList l=some r):
  Calls Tryz.prog 88 #[.pointer (some ⟨b,0,none⟩), .string z] w fun e w'=>e= .returned (.bool true)∧RS q0 b r w'∧w.grownBy w' (some b):=by
 have:=CW b z l w h
 rw [hm] at this
 exact this
theorem cZ {q0:Nat×Nat} {b:Nat} {z:ByteArray} {l:List Lex.Tok} {w:World} (h:RS q0 b l w) (hm:Cy.mark z.data.toList l=none):
  Calls Tryz.prog 88 #[.pointer (some ⟨b,0,none⟩), .string z] w fun e w'=>e= .returned (.bool false)∧RS q0 b l w'∧w.grownBy w' (some b):=by
 have:=CW b z l w h
 rw [hm] at this
 exact this
theorem lG {q0:Nat×Nat} {b:Nat} {x:List UInt8} {l r:List Lex.Tok} {w:World} (h:RS q0 b l w) (hx:Cy.bT l=some (x,r)):
  Calls Tryz.prog 145 #[.pointer (some ⟨b,0,none⟩)] w fun e w'=>e= .returned (.string ⟨x.toArray⟩)∧RS q0 b r w'∧w.grownBy w' (some b):=by
 cases l with
 | nil=>simp [Cy.bT] at hx
 | cons t l'=>
 rw [Cy.bT] at hx
 split at hx
 case isFalse=>cases hx
 case isTrue hk=>
 cases hx
 have HP:=hq7 (lX b (t :: r) w h)
 rw [List.headD_cons] at HP
 unfold tokV1 at HP
 obtain ⟨zt,hzt⟩: ∃zt:ByteArray,(⟨t.text.toArray⟩:ByteArray)=zt:=⟨_,rfl⟩
 rw [hzt] at HP⊢
 rw [hk] at HP
 have HR:=hq7 h
 clear h hzt hk
 go_enter Tryz.func145,Tryz.ntmps145
 go_wp2_with fail
 refine HP.out.mono ?_
 rintro e w1 ⟨rfl,hb⟩
 obtain ⟨W2,hW2⟩: ∃W2,w1.alloc (.cells #[.int .i64 1, .string zt, .int .i64 t.num, .int .i64 (t.pos:Int)] 138)=W2:=⟨_,rfl⟩
 have hr2:RS q0 b (t :: r) W2:=by rw [←hW2];exact HR.out.step hb _
 have hg2:w.grownBy W2 (some b):=by rw [←hW2];exact bJ (hb.alloc hb.size _) _
 have hk2:Blk W2 w1.heap.size 138 #[.int .i64 1, .string zt, .int .i64 t.num, .int .i64 (t.pos:Int)]:=by rw [←hW2];exact Blk.new _ _ _
 obtain ⟨k,e1,e2,e3,e4⟩:=hr2.next
 have HG:=hq7 hg2
 have HN:=hq7 e4
 have HW2:=hq7 hW2
 have d0:W2.cell? ⟨w1.heap.size,0,none⟩=some (.int .i64 1):=hk2.cell 0
 have d1:W2.cell? ⟨w1.heap.size,1,none⟩=some (.string zt):=hk2.cell 1
 have hki:(k:Int)<1073741824:=by omega
 have hbw:b≠w1.heap.size:=by have:=HR.out.lt;have:=hb.size;omega
 have d1':(W2.setCell ⟨b,1,none⟩ (.int .i64 ((k:Int)+1))).cell? ⟨w1.heap.size,1,none⟩=some (.string zt):=(hk2.far (p:=⟨b,1,none⟩) (fun e=>hbw e.symm) _).cell 1
 clear hW2 hr2 hg2 hk2 e4 e3 hb
 go_upto_region 2 with fail
 rw [HW2.out]
 go_wp2_with fail
 refine (dR _ _).mono ?_
 rintro e w3 ⟨rfl,rfl⟩
 go_wp2
 go_ret
 exact ⟨rfl,HN.out,ny HG.out (.inl rfl) _⟩
theorem lH {q0:Nat×Nat} {b:Nat} {l:List Lex.Tok} {w:World} (h:RS q0 b l w) (hx:Cy.bT l=none):
  Calls Tryz.prog 145 #[.pointer (some ⟨b,0,none⟩)] w fun e w'=>e= .panicked SYN∧w.grownBy w' (some b):=by
 have HP:=hq7 (lX b l w h)
 obtain ⟨t,ht⟩: ∃t,l.headD fP=t:=⟨_,rfl⟩
 have hk:t.kind≠1:=by
  cases l with
  | nil=>rw [←ht];simp [fP]
  | cons u r=>
   rw [Cy.bT] at hx
   split at hx
   ·cases hx
   ·rename_i hn;rw [List.headD_cons] at ht;rw [←ht];exact hn
 rw [ht] at HP
 unfold tokV1 at HP
 obtain ⟨zt,hzt⟩: ∃zt:ByteArray,(⟨t.text.toArray⟩:ByteArray)=zt:=⟨_,rfl⟩
 rw [hzt] at HP
 have t1:((t.kind:Int) == 1)=false:=beq_eq_false_iff_ne.2 (by omega)
 clear h hzt hk hx ht
 go_enter Tryz.func145,Tryz.ntmps145
 go_wp2_with fail
 refine HP.out.mono ?_
 rintro e w1 ⟨rfl,hb⟩
 have HB:=hq7 hb
 clear hb
 go_wp2_with fail
 refine (dX _ _).mono ?_
 rintro e w3 ⟨rfl,rfl⟩
 exact ⟨rfl,rfl,bJ (HB.out.alloc HB.out.size _) _⟩
theorem lI {q0:Nat×Nat} {b:Nat} {t:Lex.Tok} {l:List Lex.Tok} {w w1:World} {K:Int} {zt:ByteArray} (h:RS q0 b l w) (hb:Below w.heap.size w w1) (hl:l.headD fP=t):
  ∃W2 k,w1.alloc (.cells #[.int .i64 K, .string zt, .int .i64 t.num, .int .i64 (t.pos:Int)] 138)=W2∧W2.cell? ⟨b,1,none⟩=some (.int .i64 (k:Nat))∧W2.frozen? ⟨b,1,none⟩=false∧(k:Int)<1073741824∧
   Hid ((∀r,l=t :: r→RS q0 b r (W2.setCell ⟨b,1,none⟩ (.int .i64 ((k:Int)+1))))∧w.grownBy (W2.setCell ⟨b,1,none⟩ (.int .i64 ((k:Int)+1))) (some b))∧
   (W2.setCell ⟨b,1,none⟩ (.int .i64 ((k:Int)+1))).cell? ⟨w1.heap.size,0,none⟩=some (.int .i64 K)∧(W2.setCell ⟨b,1,none⟩ (.int .i64 ((k:Int)+1))).cell? ⟨w1.heap.size,1,none⟩=some (.string zt)∧(W2.setCell ⟨b,1,none⟩ (.int .i64 ((k:Int)+1))).cell? ⟨w1.heap.size,2,none⟩=some (.int .i64 t.num):=by
 have hk2:=Blk.new w1 138 #[.int .i64 K, .string zt, .int .i64 t.num, .int .i64 (t.pos:Int)]
 have hr2:=h.step hb (.cells #[.int .i64 K, .string zt, .int .i64 t.num, .int .i64 (t.pos:Int)] 138)
 obtain ⟨k,e1,e2,e3⟩:=hr2.raw
 have hbw:b≠w1.heap.size:=by have:=h.lt;have:=hb.size;omega
 have hk3:=hk2.far (p:=⟨b,1,none⟩) (fun e=>hbw e.symm) (.int .i64 ((k:Int)+1))
 refine ⟨_,k,rfl,e1,e2,by omega,hq7 ⟨fun r hr=> ?_,ny (bJ (hb.alloc hb.size _) _) (.inl rfl) _⟩,hk3.cell 0,hk3.cell 1,hk3.cell 2⟩
 subst hr
 obtain ⟨k',c1,-,-,e4⟩:=hr2.next
 rw [e1] at c1
 have:(k:Int)=(k':Int):=by injection c1 with c1;injection c1
 rw [this]
 exact e4
theorem CX {q0:Nat×Nat} {b:Nat} {k n:Int} {x:List UInt8} {l r:List Lex.Tok} {w:World} (h:RS q0 b l w) (hx:Cy.eX l=some ((k,n,x),r)):
  Calls Tryz.prog 255 #[.pointer (some ⟨b,0,none⟩)] w fun e w'=>e= .returned (.tuple #[.int .i64 k, .int .i64 n, .string ⟨x.toArray⟩])∧RS q0 b r w'∧w.grownBy w' (some b):=by
 cases l with
 | nil=>simp [Cy.eX] at hx
 | cons t l'=>
 rw [Cy.eX] at hx
 have HP:=hq7 (lX b (t :: l') w h)
 rw [List.headD_cons] at HP
 unfold tokV1 at HP
 have HR:=hq7 h
 obtain ⟨zt,hzt⟩: ∃zt:ByteArray,(⟨t.text.toArray⟩:ByteArray)=zt:=⟨_,rfl⟩
 have hztd:zt.data.toList=t.text:=by rw [←hzt]
 obtain ⟨K,hK⟩: ∃K:Int,(t.kind:Int)=K:=⟨_,rfl⟩
 rw [hzt,hK] at HP
 have hu:=iC
 clear h
 by_cases h1:t.kind=1
 ·rw [if_pos h1] at hx
  obtain rfl:K=1:=by omega
  have ht:(zt.toList == [116,114,117,101])=(t.text == Cel.TRUE):=by rw [Lib.toList_data,hztd];rfl
  have hf:(zt.toList == [102,97,108,115,101])=(t.text == Cel.FALSE):=by rw [Lib.toList_data,hztd];rfl
  by_cases e1:t.text=Cel.TRUE
  ·rw [if_pos e1] at hx
   cases hx
   rw [show (t.text == Cel.TRUE)=true from beq_iff_eq.2 e1] at ht
   clear hf e1 h1 hztd hzt hK
   go_enter Tryz.func255,Tryz.ntmps255
   go_wp2_with fail
   refine HP.out.mono ?_
   rintro e w1 ⟨rfl,hb⟩
   obtain ⟨W2,k2,hW2,c1,f1,hki,HRS,d0,d1,d2⟩:=lI (t:=t) (K:=1) (zt:=zt) HR.out hb rfl
   have HW2:=hq7 hW2
   clear hW2 hb
   go_upto_region 2 with fail
   rw [HW2.out]
   go_wp2_with fail
   refine (dR _ _).mono ?_
   rintro e w3 ⟨rfl,rfl⟩
   go_wp2
   go_ret3
   exact ⟨rfl,HRS.out.1 _ rfl,HRS.out.2⟩
  ·rw [if_neg e1] at hx
   split at hx
   case isFalse=>cases hx
   case isTrue e2=>
   cases hx
   rw [show (t.text == Cel.TRUE)=false from beq_eq_false_iff_ne.2 e1] at ht
   rw [show (t.text == Cel.FALSE)=true from beq_iff_eq.2 e2] at hf
   clear e1 e2 h1 hztd hzt hK
   go_enter Tryz.func255,Tryz.ntmps255
   go_wp2_with fail
   refine HP.out.mono ?_
   rintro e w1 ⟨rfl,hb⟩
   obtain ⟨W2,k2,hW2,c1,f1,hki,HRS,d0,d1,d2⟩:=lI (t:=t) (K:=1) (zt:=zt) HR.out hb rfl
   have HW2:=hq7 hW2
   clear hW2 hb
   go_upto_region 2 with fail
   rw [HW2.out]
   go_wp2_with fail
   refine (dR _ _).mono ?_
   rintro e w3 ⟨rfl,rfl⟩
   go_wp2
   go_ret3
   exact ⟨rfl,HRS.out.1 _ rfl,HRS.out.2⟩
 rw [if_neg h1] at hx
 have t1:(K == 1)=false:=beq_eq_false_iff_ne.2 (by omega)
 by_cases h2:t.kind=2
 ·rw [if_pos h2] at hx
  cases hx
  obtain rfl:K=2:=by omega
  clear h1 h2 hztd hzt hK t1
  go_enter Tryz.func255,Tryz.ntmps255
  go_wp2_with fail
  refine HP.out.mono ?_
  rintro e w1 ⟨rfl,hb⟩
  obtain ⟨W2,k2,hW2,c1,f1,hki,HRS,d0,d1,d2⟩:=lI (t:=t) (K:=2) (zt:=zt) HR.out hb rfl
  have HW2:=hq7 hW2
  clear hW2 hb
  go_upto_region 2 with fail
  rw [HW2.out]
  go_wp2_with fail
  go_quiet (fail)
  go_wp2
  go_ret3
  exact ⟨rfl,(HRS.out.1 _ rfl).kept (below_drewN (Below.refl _ _) nq),iP HRS.out.2 nq⟩
 rw [if_neg h2] at hx
 have t2:(K == 2)=false:=beq_eq_false_iff_ne.2 (by omega)
 by_cases h3:t.kind=3
 ·rw [if_pos h3] at hx
  cases hx
  obtain rfl:K=3:=by omega
  clear h1 h2 h3 hztd hzt hK t1 t2
  go_enter Tryz.func255,Tryz.ntmps255
  go_wp2_with fail
  refine HP.out.mono ?_
  rintro e w1 ⟨rfl,hb⟩
  obtain ⟨W2,k2,hW2,c1,f1,hki,HRS,d0,d1,d2⟩:=lI (t:=t) (K:=3) (zt:=zt) HR.out hb rfl
  have HW2:=hq7 hW2
  clear hW2 hb
  go_upto_region 2 with fail
  rw [HW2.out]
  go_wp2_with fail
  go_quiet (fail)
  go_wp2
  go_ret3
  exact ⟨rfl,(HRS.out.1 _ rfl).kept (below_drewN (Below.refl _ _) nq),iP HRS.out.2 nq⟩
 rw [if_neg h3] at hx
 split at hx
 case isFalse=>cases hx
 case isTrue h4=>
 cases hx
 obtain rfl:K=4:=by omega
 have HZ:=hq7 hzt
 clear h1 h2 h3 h4 hztd hzt hK t1 t2
 go_enter Tryz.func255,Tryz.ntmps255
 go_wp2_with fail
 refine HP.out.mono ?_
 rintro e w1 ⟨rfl,hb⟩
 obtain ⟨W2,k2,hW2,c1,f1,hki,HRS,d0,d1,d2⟩:=lI (t:=t) (K:=4) (zt:=zt) HR.out hb rfl
 have HW2:=hq7 hW2
 clear hW2 hb
 go_upto_region 2 with fail
 rw [HW2.out]
 go_wp2_with fail
 refine (dR _ _).mono ?_
 rintro e w3 ⟨rfl,rfl⟩
 go_wp2_with fail
 go_quiet (fail)
 go_wp2
 go_ret3
 exact ⟨by rw [HZ.out];rfl,(HRS.out.1 _ rfl).kept (below_drewN (Below.refl _ _) nq),iP HRS.out.2 nq⟩
theorem CY {q0:Nat×Nat} {b:Nat} {l:List Lex.Tok} {w:World} (h:RS q0 b l w) (hx:Cy.eX l=none):
  Calls Tryz.prog 255 #[.pointer (some ⟨b,0,none⟩)] w fun e w'=>e= .panicked SYN∧w.grownBy w' (some b):=by
 have HP:=hq7 (lX b l w h)
 obtain ⟨t,hlt⟩: ∃t,l.headD fP=t:=⟨_,rfl⟩
 have HR:=hq7 h
 have hc:(t.kind=1∧t.text≠Cel.TRUE∧t.text≠Cel.FALSE)∨(t.kind≠1∧t.kind≠2∧t.kind≠3∧t.kind≠4):=by
  cases l with
  | nil=>rw [←hlt];right;simp [fP]
  | cons u r=>
   rw [List.headD_cons] at hlt
   subst hlt
   rw [Cy.eX] at hx
   repeat' split at hx
   all_goals first |(cases hx;done) |(left;exact ⟨by assumption,by assumption,by assumption⟩) |(right;exact ⟨by assumption,by assumption,by assumption,by assumption⟩)
 rw [hlt] at HP
 unfold tokV1 at HP
 obtain ⟨zt,hzt⟩: ∃zt:ByteArray,(⟨t.text.toArray⟩:ByteArray)=zt:=⟨_,rfl⟩
 have hztd:zt.data.toList=t.text:=by rw [←hzt]
 obtain ⟨K,hK⟩: ∃K:Int,(t.kind:Int)=K:=⟨_,rfl⟩
 rw [hzt,hK] at HP
 have hu:=iC
 have HLT:=hq7 hlt
 clear h hx hlt
 rcases hc with ⟨h1,e1,e2⟩ |⟨h1,h2,h3,h4⟩
 ·obtain rfl:K=1:=by omega
  have ht:(zt.toList == [116,114,117,101])=false:=beq_eq_false_iff_ne.2 (by rw [Lib.toList_data,hztd];exact e1)
  have hf:(zt.toList == [102,97,108,115,101])=false:=beq_eq_false_iff_ne.2 (by rw [Lib.toList_data,hztd];exact e2)
  clear h1 e1 e2 hzt hztd hK
  go_enter Tryz.func255,Tryz.ntmps255
  go_wp2_with fail
  refine HP.out.mono ?_
  rintro e w1 ⟨rfl,hb⟩
  obtain ⟨W2,k2,hW2,c1,f1,hki,HRS,d0,d1,d2⟩:=lI (t:=t) (K:=1) (zt:=zt) HR.out hb HLT.out
  have HW2:=hq7 hW2
  clear hW2 hb
  go_upto_region 2 with fail
  rw [HW2.out]
  go_wp2_with fail
  refine (dX _ _).mono ?_
  rintro e w3 ⟨rfl,rfl⟩
  exact ⟨rfl,rfl,HRS.out.2⟩
 ·have t1:(K == 1)=false:=beq_eq_false_iff_ne.2 (by omega)
  have t2:(K == 2)=false:=beq_eq_false_iff_ne.2 (by omega)
  have t3:(K == 3)=false:=beq_eq_false_iff_ne.2 (by omega)
  have t4:(K == 4)=false:=beq_eq_false_iff_ne.2 (by omega)
  clear h1 h2 h3 h4 hzt hztd hK
  go_enter Tryz.func255,Tryz.ntmps255
  go_wp2_with fail
  refine HP.out.mono ?_
  rintro e w1 ⟨rfl,hb⟩
  obtain ⟨W2,k2,hW2,c1,f1,hki,HRS,d0,d1,d2⟩:=lI (t:=t) (K:=K) (zt:=zt) HR.out hb HLT.out
  have HW2:=hq7 hW2
  clear hW2 hb
  go_upto_region 2 with fail
  rw [HW2.out]
  go_wp2_with fail
  refine (dX _ _).mono ?_
  rintro e w3 ⟨rfl,rfl⟩
  exact ⟨rfl,rfl,HRS.out.2⟩
end Go.Proofs.YtoofbflplhbpbaaGreatDoor
namespace Go.Proofs.YtoofbflplhbpbaaGreatDoor
open Go.RowKit
theorem LC (c:UInt8):Lex.aF c=((decide ((97:Int)≤(c.toNat:Int)) && decide ((c.toNat:Int)≤122)) ||(decide ((65:Int)≤(c.toNat:Int)) && decide ((c.toNat:Int)≤90)) ||(decide ((48:Int)≤(c.toNat:Int)) && decide ((c.toNat:Int)≤57)) ||((c.toNat:Int) == 95)):=by
 rw [Bool.eq_iff_iff]
 simp only [Lex.aF,Lex.isLet,Num.au,Bool.or_eq_true,Bool.and_eq_true,decide_eq_true_eq,beq_iff_eq]
 omega
theorem CZ:Gr.aI []=false:=by decide
theorem C9 {l:List UInt8} (h:40<l.length):Gr.aI l=false:=by
 unfold Gr.aI
 rw [decide_eq_false (by omega: ¬l.length≤40)]
 simp
theorem Dc {l:List UInt8} {c:UInt8} (h:l[0]?=some c) (hc:Num.au c=true):Gr.aI l=false:=by
 cases l with
 | nil=>simp at h
 | cons a r=>
  simp only [List.getElem?_cons_zero,Option.some.injEq] at h
  subst h
  unfold Gr.aI
  simp [hc]
theorem Df {l:List UInt8} {c:UInt8} {k:Nat} (h:l[k]?=some c) (hc:Lex.aF c=false):Gr.aI l=false:=by
 unfold Gr.aI
 rw [List.all_eq_false.2 ⟨c,List.mem_of_getElem? h,by rw [hc];decide⟩]
 simp
theorem Dh {l:List UInt8} {c:UInt8} (h0:l[0]?=some c) (hc:Num.au c=false) (hl:l.length≤40) (h: ∀(j:Nat) d,l[j]?=some d→Lex.aF d=true):Gr.aI l=true:=by
 cases l with
 | nil=>simp at h0
 | cons a r=>
  simp only [List.getElem?_cons_zero,Option.some.injEq] at h0
  subst h0
  unfold Gr.aI
  rw [List.all_eq_true.2 (fun d hd=>by
   obtain ⟨j,hj,e⟩:=List.getElem_of_mem hd
   exact h j d (by rw [List.getElem?_eq_getElem hj,e]))]
  rw [decide_eq_true hl]
  simp [hc]
theorem lY (s:ByteArray) (w:World) (hs:s.size≤1073741824):
  Calls Tryz.prog 90 #[.string s] w fun e w'=>e= .returned (.bool (Gr.aI s.data.toList))∧w=w':=by
 obtain ⟨R,hR⟩: ∃R,Gr.aI s.data.toList=R:=⟨_,rfl⟩
 rw [hR]
 have HR:=hq7 hR
 clear hR
 have hl:=Lib.size_eq s
 have hg:=fun (k:Nat) (h:k<s.size)=>jV s k h
 have hd:=Lib.toList_data s
 obtain ⟨n,hn⟩: ∃n,s.size=n:=⟨_,rfl⟩
 rw [hn] at hl hs
 have hu:=iC
 by_cases h0:n=0
 ·subst h0
  have hs0:s.toList.isEmpty=true:=by rw [hd,List.isEmpty_iff];exact List.eq_nil_of_length_eq_zero hl.symm
  have hr:R=false:=by rw [←HR.out,List.eq_nil_of_length_eq_zero hl.symm];exact CZ
  have HRR:=hq7 hr
  clear hr hl hg hd hs
  go_enter Tryz.func90,Tryz.ntmps90
  go_wp2
  go_ret
  exact ⟨by rw [HRR.out];rfl,rfl⟩
 have hs0:s.toList.isEmpty=false:=by rw [hd,List.isEmpty_eq_false_iff];intro e;rw [e] at hl;simp at hl;omega
 by_cases h40:40<n
 ·have h40i:(40:Int)<n:=by omega
  have t40:decide ((40:Int)<n)=true:=decide_eq_true h40i
  have hr:R=false:=by rw [←HR.out];exact C9 (by omega)
  have HRR:=hq7 hr
  clear hr hl hg hd h0 h40 hs
  go_enter Tryz.func90,Tryz.ntmps90
  go_wp2
  go_ret
  exact ⟨by rw [HRR.out];rfl,rfl⟩
 have h40i:(n:Int)≤40:=by omega
 have t40:decide ((40:Int)<n)=false:=decide_eq_false (by omega)
 have hp:0<s.size:=by omega
 obtain ⟨c,hc⟩: ∃c,s[0]'hp=c:=⟨_,rfl⟩
 have hc0:s.data.toList[0]?=some c:=by rw [hg 0 hp,hc]
 have HC0:=hq7 hc0
 have HG:=hq7 hg
 have HN:=hq7 hn
 have HLL:=hq7 hl
 have HU:=hq7 hu
 clear hg hd hc0 hl
 obtain ⟨x1,hx1⟩: ∃x,decide ((48:Int)≤(c.toNat:Int))=x:=⟨_,rfl⟩
 obtain ⟨x2,hx2⟩: ∃x,decide ((c.toNat:Int)≤57)=x:=⟨_,rfl⟩
 have hdig:Num.au c=(x1 && x2):=by
  rw [←hx1,←hx2,Bool.eq_iff_iff]
  simp only [Num.au,Bool.and_eq_true,decide_eq_true_eq]
  omega
 have HDIG:=hq7 hdig
 clear hdig hs
 have hni:(n:Int)≤1073741824:=by omega
 by_cases hxx:x1=true∧x2=true
 ·obtain ⟨rfl,rfl⟩:=hxx
  have hr:R=false:=by rw [←HR.out];exact Dc HC0.out HDIG.out
  have HRR:=hq7 hr
  have hx1i:=of_decide_eq_true hx1
  have hx2i:=of_decide_eq_true hx2
  clear hr h0 h40
  go_enter Tryz.func90,Tryz.ntmps90
  go_wp2
  go_ret
  exact ⟨by rw [HRR.out];rfl,rfl⟩
 ·have hnd:Num.au c=false:=by rw [HDIG.out];cases x1<;> cases x2<;> simp_all
  have HND:=hq7 hnd
  have hor:x1=false∨(x1=true∧x2=false):=by cases x1<;> cases x2<;> simp_all
  clear hnd hxx h0 h40
  go_enter Tryz.func90,Tryz.ntmps90
  go_upto_region 1 with fail
  go_cut [21] (fun s21 wx=>s21= .bool false∧w=wx)
  case first=>
   rcases hor with rfl |⟨rfl,rfl⟩
   ·have hxi:=of_decide_eq_false hx1
    go_wp2
    go_meet
    exact ⟨rfl,rfl⟩
   ·have hxi:=of_decide_eq_true hx1
    have hxj:=of_decide_eq_false hx2
    go_wp2
    go_meet
    exact ⟨rfl,rfl⟩
  case rest=>
   obtain ⟨rfl,rfl⟩:=hcut
   clear hx1 hx2 hor
   go_wp2_with fail
   go_loopg [24] n (fun g x wr=> ∃k:Nat,x= .int .i64 k∧k+g=n∧w=wr∧ ∀(j:Nat) d,j<k→s.data.toList[j]?=some d→Lex.aF d=true)
   case atStart=>exact ⟨0,rfl,by omega,rfl,fun j d h=>by omega⟩
   case round=>
    obtain ⟨k,rfl,hk,rfl,hz⟩:=hrel
    have HK:=hq7 hk
    have HZ:=hq7 hz
    clear hz
    cases gk with
    | zero=>
     obtain rfl:k=n:=by omega
     have hr:R=true:=by
      rw [←HR.out]
      exact Dh HC0.out HND.out (by have:=HLL.out;omega) (fun j d hj=>HZ.out j d (by have:=(List.getElem?_eq_some_iff.1 hj).1;have:=HLL.out;omega) hj)
     have HRR:=hq7 hr
     clear hk hr
     go_wp2
     go_ret
     exact ⟨by rw [HRR.out];rfl,rfl⟩
    | succ g=>
     have hkn:k<n:=by omega
     have hknI:(k:Int)<n:=by omega
     have hks:k<s.size:=by rw [HN.out];exact hkn
     obtain ⟨d,hd⟩: ∃d,s[k]'hks=d:=⟨_,rfl⟩
     have HD:=hq7 (show s.data.toList[k]?=some d by rw [HG.out k hks,hd])
     obtain ⟨a1,ha1⟩: ∃a,decide ((97:Int)≤(d.toNat:Int))=a:=⟨_,rfl⟩
     obtain ⟨a2,ha2⟩: ∃a,decide ((d.toNat:Int)≤122)=a:=⟨_,rfl⟩
     obtain ⟨b1,hb1⟩: ∃a,decide ((65:Int)≤(d.toNat:Int))=a:=⟨_,rfl⟩
     obtain ⟨b2,hb2⟩: ∃a,decide ((d.toNat:Int)≤90)=a:=⟨_,rfl⟩
     obtain ⟨c1,hc1⟩: ∃a,decide ((48:Int)≤(d.toNat:Int))=a:=⟨_,rfl⟩
     obtain ⟨c2,hc2⟩: ∃a,decide ((d.toNat:Int)≤57)=a:=⟨_,rfl⟩
     obtain ⟨e1,he1⟩: ∃a,((d.toNat:Int) == 95)=a:=⟨_,rfl⟩
     have HIN:=hq7 (show Lex.aF d=(a1 && a2 || b1 && b2 || c1 && c2 || e1) by rw [LC,ha1,ha2,hb1,hb2,hc1,hc2,he1])
     have hn1:(d.toNat:Int)≤255:=by have:=d.toNat_lt;omega
     have HB:=hq7 (show R=false∨(a1 && a2 || b1 && b2 || c1 && c2 || e1)=true by
      cases hq:(a1 && a2 || b1 && b2 || c1 && c2 || e1) with
      | true=>exact .inr rfl
      | false=>exact .inl (by rw [←HR.out];exact Df HD.out (HIN.out.trans hq)))
     have HZN:=hq7 (show (a1 && a2 || b1 && b2 || c1 && c2 || e1)=true→ ∀(j:Nat) q,j<k+1→s.data.toList[j]?=some q→Lex.aF q=true from fun h j q hj hq=>by
      by_cases e:j=k
      ·subst e
       rw [HD.out] at hq
       cases hq
       rw [HIN.out];exact h
      ·exact HZ.out j q (by omega) hq)
     clear hk
     cases a1 with
     | true=>
      cases a2 with
      | true=>
       have ha1i:=of_decide_eq_true ha1
       have ha2i:=of_decide_eq_true ha2
       have hz:=HZN.out rfl
       have HZ2:=hq7 hz
       clear hz
       go_wp2
       go_roundg g
       case measure=>omega
       case rel=>exact ⟨k+1,int_eq (by omega),by have:=HK.out;omega,rfl,HZ2.out⟩
      | false=>
       cases b1 with
       | true=>
        cases b2 with
        | true=>
         have ha1i:=of_decide_eq_true ha1
         have ha2i:=of_decide_eq_false ha2
         have hb1i:=of_decide_eq_true hb1
         have hb2i:=of_decide_eq_true hb2
         have hz:=HZN.out rfl
         have HZ2:=hq7 hz
         clear hz
         go_wp2
         go_roundg g
         case measure=>omega
         case rel=>exact ⟨k+1,int_eq (by omega),by have:=HK.out;omega,rfl,HZ2.out⟩
        | false=>
         cases c1 with
         | true=>
          cases c2 with
          | true=>
           have ha1i:=of_decide_eq_true ha1
           have ha2i:=of_decide_eq_false ha2
           have hb1i:=of_decide_eq_true hb1
           have hb2i:=of_decide_eq_false hb2
           have hc1i:=of_decide_eq_true hc1
           have hc2i:=of_decide_eq_true hc2
           have hz:=HZN.out rfl
           have HZ2:=hq7 hz
           clear hz
           go_wp2
           go_roundg g
           case measure=>omega
           case rel=>exact ⟨k+1,int_eq (by omega),by have:=HK.out;omega,rfl,HZ2.out⟩
          | false=>
           cases e1 with
           | true=>
            have ha1i:=of_decide_eq_true ha1
            have ha2i:=of_decide_eq_false ha2
            have hb1i:=of_decide_eq_true hb1
            have hb2i:=of_decide_eq_false hb2
            have hc1i:=of_decide_eq_true hc1
            have hc2i:=of_decide_eq_false hc2
            have he1i:=beq_iff_eq.1 he1
            have hz:=HZN.out rfl
            have HZ2:=hq7 hz
            clear hz
            go_wp2
            go_roundg g
            case measure=>omega
            case rel=>exact ⟨k+1,int_eq (by omega),by have:=HK.out;omega,rfl,HZ2.out⟩
           | false=>
            have ha1i:=of_decide_eq_true ha1
            have ha2i:=of_decide_eq_false ha2
            have hb1i:=of_decide_eq_true hb1
            have hb2i:=of_decide_eq_false hb2
            have hc1i:=of_decide_eq_true hc1
            have hc2i:=of_decide_eq_false hc2
            have he1i:=beq_eq_false_iff_ne.1 he1
            have hr:R=false:=HB.out.elim id (fun h=>by cases h)
            have HRR:=hq7 hr
            clear hr
            go_wp2
            go_ret
            exact ⟨by rw [HRR.out];rfl,rfl⟩
         | false=>
          cases e1 with
          | true=>
           have ha1i:=of_decide_eq_true ha1
           have ha2i:=of_decide_eq_false ha2
           have hb1i:=of_decide_eq_true hb1
           have hb2i:=of_decide_eq_false hb2
           have hc1i:=of_decide_eq_false hc1
           have he1i:=beq_iff_eq.1 he1
           have hz:=HZN.out rfl
           have HZ2:=hq7 hz
           clear hz
           go_wp2
           go_roundg g
           case measure=>omega
           case rel=>exact ⟨k+1,int_eq (by omega),by have:=HK.out;omega,rfl,HZ2.out⟩
          | false=>
           have ha1i:=of_decide_eq_true ha1
           have ha2i:=of_decide_eq_false ha2
           have hb1i:=of_decide_eq_true hb1
           have hb2i:=of_decide_eq_false hb2
           have hc1i:=of_decide_eq_false hc1
           have he1i:=beq_eq_false_iff_ne.1 he1
           have hr:R=false:=HB.out.elim id (fun h=>by cases h)
           have HRR:=hq7 hr
           clear hr
           go_wp2
           go_ret
           exact ⟨by rw [HRR.out];rfl,rfl⟩
       | false=>
        cases c1 with
        | true=>
         cases c2 with
         | true=>
          have ha1i:=of_decide_eq_true ha1
          have ha2i:=of_decide_eq_false ha2
          have hb1i:=of_decide_eq_false hb1
          have hc1i:=of_decide_eq_true hc1
          have hc2i:=of_decide_eq_true hc2
          have hz:=HZN.out rfl
          have HZ2:=hq7 hz
          clear hz
          go_wp2
          go_roundg g
          case measure=>omega
          case rel=>exact ⟨k+1,int_eq (by omega),by have:=HK.out;omega,rfl,HZ2.out⟩
         | false=>
          cases e1 with
          | true=>
           have ha1i:=of_decide_eq_true ha1
           have ha2i:=of_decide_eq_false ha2
           have hb1i:=of_decide_eq_false hb1
           have hc1i:=of_decide_eq_true hc1
           have hc2i:=of_decide_eq_false hc2
           have he1i:=beq_iff_eq.1 he1
           have hz:=HZN.out rfl
           have HZ2:=hq7 hz
           clear hz
           go_wp2
           go_roundg g
           case measure=>omega
           case rel=>exact ⟨k+1,int_eq (by omega),by have:=HK.out;omega,rfl,HZ2.out⟩
          | false=>
           have ha1i:=of_decide_eq_true ha1
           have ha2i:=of_decide_eq_false ha2
           have hb1i:=of_decide_eq_false hb1
           have hc1i:=of_decide_eq_true hc1
           have hc2i:=of_decide_eq_false hc2
           have he1i:=beq_eq_false_iff_ne.1 he1
           have hr:R=false:=HB.out.elim id (fun h=>by cases h)
           have HRR:=hq7 hr
           clear hr
           go_wp2
           go_ret
           exact ⟨by rw [HRR.out];rfl,rfl⟩
        | false=>
         cases e1 with
         | true=>
          have ha1i:=of_decide_eq_true ha1
          have ha2i:=of_decide_eq_false ha2
          have hb1i:=of_decide_eq_false hb1
          have hc1i:=of_decide_eq_false hc1
          have he1i:=beq_iff_eq.1 he1
          have hz:=HZN.out rfl
          have HZ2:=hq7 hz
          clear hz
          go_wp2
          go_roundg g
          case measure=>omega
          case rel=>exact ⟨k+1,int_eq (by omega),by have:=HK.out;omega,rfl,HZ2.out⟩
         | false=>
          have ha1i:=of_decide_eq_true ha1
          have ha2i:=of_decide_eq_false ha2
          have hb1i:=of_decide_eq_false hb1
          have hc1i:=of_decide_eq_false hc1
          have he1i:=beq_eq_false_iff_ne.1 he1
          have hr:R=false:=HB.out.elim id (fun h=>by cases h)
          have HRR:=hq7 hr
          clear hr
          go_wp2
          go_ret
          exact ⟨by rw [HRR.out];rfl,rfl⟩
     | false=>
      cases b1 with
      | true=>
       cases b2 with
       | true=>
        have ha1i:=of_decide_eq_false ha1
        have hb1i:=of_decide_eq_true hb1
        have hb2i:=of_decide_eq_true hb2
        have hz:=HZN.out rfl
        have HZ2:=hq7 hz
        clear hz
        go_wp2
        go_roundg g
        case measure=>omega
        case rel=>exact ⟨k+1,int_eq (by omega),by have:=HK.out;omega,rfl,HZ2.out⟩
       | false=>
        cases c1 with
        | true=>
         cases c2 with
         | true=>
          have ha1i:=of_decide_eq_false ha1
          have hb1i:=of_decide_eq_true hb1
          have hb2i:=of_decide_eq_false hb2
          have hc1i:=of_decide_eq_true hc1
          have hc2i:=of_decide_eq_true hc2
          have hz:=HZN.out rfl
          have HZ2:=hq7 hz
          clear hz
          go_wp2
          go_roundg g
          case measure=>omega
          case rel=>exact ⟨k+1,int_eq (by omega),by have:=HK.out;omega,rfl,HZ2.out⟩
         | false=>
          cases e1 with
          | true=>
           have ha1i:=of_decide_eq_false ha1
           have hb1i:=of_decide_eq_true hb1
           have hb2i:=of_decide_eq_false hb2
           have hc1i:=of_decide_eq_true hc1
           have hc2i:=of_decide_eq_false hc2
           have he1i:=beq_iff_eq.1 he1
           have hz:=HZN.out rfl
           have HZ2:=hq7 hz
           clear hz
           go_wp2
           go_roundg g
           case measure=>omega
           case rel=>exact ⟨k+1,int_eq (by omega),by have:=HK.out;omega,rfl,HZ2.out⟩
          | false=>
           have ha1i:=of_decide_eq_false ha1
           have hb1i:=of_decide_eq_true hb1
           have hb2i:=of_decide_eq_false hb2
           have hc1i:=of_decide_eq_true hc1
           have hc2i:=of_decide_eq_false hc2
           have he1i:=beq_eq_false_iff_ne.1 he1
           have hr:R=false:=HB.out.elim id (fun h=>by cases h)
           have HRR:=hq7 hr
           clear hr
           go_wp2
           go_ret
           exact ⟨by rw [HRR.out];rfl,rfl⟩
        | false=>
         cases e1 with
         | true=>
          have ha1i:=of_decide_eq_false ha1
          have hb1i:=of_decide_eq_true hb1
          have hb2i:=of_decide_eq_false hb2
          have hc1i:=of_decide_eq_false hc1
          have he1i:=beq_iff_eq.1 he1
          have hz:=HZN.out rfl
          have HZ2:=hq7 hz
          clear hz
          go_wp2
          go_roundg g
          case measure=>omega
          case rel=>exact ⟨k+1,int_eq (by omega),by have:=HK.out;omega,rfl,HZ2.out⟩
         | false=>
          have ha1i:=of_decide_eq_false ha1
          have hb1i:=of_decide_eq_true hb1
          have hb2i:=of_decide_eq_false hb2
          have hc1i:=of_decide_eq_false hc1
          have he1i:=beq_eq_false_iff_ne.1 he1
          have hr:R=false:=HB.out.elim id (fun h=>by cases h)
          have HRR:=hq7 hr
          clear hr
          go_wp2
          go_ret
          exact ⟨by rw [HRR.out];rfl,rfl⟩
      | false=>
       cases c1 with
       | true=>
        cases c2 with
        | true=>
         have ha1i:=of_decide_eq_false ha1
         have hb1i:=of_decide_eq_false hb1
         have hc1i:=of_decide_eq_true hc1
         have hc2i:=of_decide_eq_true hc2
         have hz:=HZN.out rfl
         have HZ2:=hq7 hz
         clear hz
         go_wp2
         go_roundg g
         case measure=>omega
         case rel=>exact ⟨k+1,int_eq (by omega),by have:=HK.out;omega,rfl,HZ2.out⟩
        | false=>
         cases e1 with
         | true=>
          have ha1i:=of_decide_eq_false ha1
          have hb1i:=of_decide_eq_false hb1
          have hc1i:=of_decide_eq_true hc1
          have hc2i:=of_decide_eq_false hc2
          have he1i:=beq_iff_eq.1 he1
          have hz:=HZN.out rfl
          have HZ2:=hq7 hz
          clear hz
          go_wp2
          go_roundg g
          case measure=>omega
          case rel=>exact ⟨k+1,int_eq (by omega),by have:=HK.out;omega,rfl,HZ2.out⟩
         | false=>
          have ha1i:=of_decide_eq_false ha1
          have hb1i:=of_decide_eq_false hb1
          have hc1i:=of_decide_eq_true hc1
          have hc2i:=of_decide_eq_false hc2
          have he1i:=beq_eq_false_iff_ne.1 he1
          have hr:R=false:=HB.out.elim id (fun h=>by cases h)
          have HRR:=hq7 hr
          clear hr
          go_wp2
          go_ret
          exact ⟨by rw [HRR.out];rfl,rfl⟩
       | false=>
        cases e1 with
        | true=>
         have ha1i:=of_decide_eq_false ha1
         have hb1i:=of_decide_eq_false hb1
         have hc1i:=of_decide_eq_false hc1
         have he1i:=beq_iff_eq.1 he1
         have hz:=HZN.out rfl
         have HZ2:=hq7 hz
         clear hz
         go_wp2
         go_roundg g
         case measure=>omega
         case rel=>exact ⟨k+1,int_eq (by omega),by have:=HK.out;omega,rfl,HZ2.out⟩
        | false=>
         have ha1i:=of_decide_eq_false ha1
         have hb1i:=of_decide_eq_false hb1
         have hc1i:=of_decide_eq_false hc1
         have he1i:=beq_eq_false_iff_ne.1 he1
         have hr:R=false:=HB.out.elim id (fun h=>by cases h)
         have HRR:=hq7 hr
         clear hr
         go_wp2
         go_ret
         exact ⟨by rw [HRR.out];rfl,rfl⟩
end Go.Proofs.YtoofbflplhbpbaaGreatDoor
