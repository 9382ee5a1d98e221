/- Contracts and plain laws,part 19. -/
import Derived.Test.YtoofbflplhbpbaaGreatDoorBK18
import Derived.Below
import Derived.Sort.Grow
import Derived.StillTail
set_option maxHeartbeats 64000000
set_option maxRecDepth 1000000
set_option linter.all false
namespace Go.Proofs.YtoofbflplhbpbaaGreatDoor
open Go.RowKit
namespace Lex
theorem Cm {c:UInt8} (h:c=92∨c=39):q1 c= [92] ++ [c]:=by
 rcases h with rfl | rfl<;> decide
theorem Lh {c:UInt8} (h1:c≠92) (h2:c≠39) (h3:odd c=false):q1 c= [c]:=by
 unfold q1
 have n10:c≠10:=by rintro rfl;exact absurd h3 (by decide)
 have n13:c≠13:=by rintro rfl;exact absurd h3 (by decide)
 have n9:c≠9:=by rintro rfl;exact absurd h3 (by decide)
 rw [if_neg n10,if_neg n13,if_neg n9,if_neg (by rw [h3];decide),if_neg (fun h=>h.elim h2 h1)]
theorem CB {c:UInt8} (h1:c≠10) (h2:c≠13) (h3:c≠9) (h:odd c=true):q1 c= [92,120] ++ [Num.bC (c.toNat / 16)] ++ [Num.bC (c.toNat % 16)]:=by
 unfold q1
 rw [if_neg h1,if_neg h2,if_neg h3,if_pos h]
 rfl
end Lex
theorem Lj: ∀c:Fin 256,bits BinOp.and IntKind.u8 ((UInt8.ofNat c.val).toNat:Int) 15=(((UInt8.ofNat c.val).toNat % 16:Nat):Int):=by decide+kernel
theorem and15 (c:UInt8):bits BinOp.and IntKind.u8 (c.toNat:Int) 15=((c.toNat % 16:Nat):Int):=by
 have:=Lj ⟨c.toNat,UInt8.toNat_lt c⟩
 simp only [UInt8.ofNat_toNat] at this
 exact this
theorem Ll: ∀d:Fin 16,(({data:= #[48,49,50,51,52,53,54,55,56,57,97,98,99,100,101,102]}:ByteArray).data.toList)[d.val]?=some (Num.bC d.val):=by decide+kernel
theorem dig16 (d:Nat) (h:d<16) (h':d<({data:= #[48,49,50,51,52,53,54,55,56,57,97,98,99,100,101,102]}:ByteArray).size):({data:= #[48,49,50,51,52,53,54,55,56,57,97,98,99,100,101,102]}:ByteArray)[d]'h'=Num.bC d:=by
 have e:=Ll ⟨d,h⟩
 have e2:=IX (s:={data:= #[48,49,50,51,52,53,54,55,56,57,97,98,99,100,101,102]}) h'
 rw [e2] at e
 exact Option.some.inj e
structure qF (s:ByteArray) (w:World) (k:Nat) (acc:List UInt8) (wx:World):Prop where
 text:acc=39 ::(s.data.toList.take k).flatMap Lex.q1
 len:acc.length≤4*k+1
 bel:Below w.heap.size w wx
 bld:Bld w.heap.size w.heap.size acc wx
theorem qF.next {s:ByteArray} {w:World} {k:Nat} {acc acc':List UInt8} {wx wy:World} (h:qF s w k acc wx) (hk:k<s.size) (ha:acc'=acc ++ Lex.q1 (s[k]'hk)) (hb:Below w.heap.size wx wy) (hl:Bld w.heap.size w.heap.size acc' wy):qF s w (k+1) acc' wy:=by
 have h1:k<s.data.toList.length:=by rw [←Lib.size_eq];exact hk
 have hq:=(Lex.sG (s[k]'hk)).2
 have hlen:=h.len
 refine ⟨?_,by rw [ha,List.length_append];omega,h.bel.trans hb,hl⟩
 rw [ha,h.text,List.take_succ_eq_append_getElem h1,List.flatMap_append]
 simp only [List.cons_append,List.flatMap_cons,List.flatMap_nil,List.append_nil]
 rfl
theorem Lm (s:ByteArray) (w:World) (hs:s.size≤67108864):
  Calls Tryz.prog 73 #[.string s] w fun e w'=>e= .returned (.string ⟨(Lex.quote s.data.toList).toArray⟩)∧Below w.heap.size w w':=by
 go_enter Tryz.func73,Tryz.ntmps73
 go_wp2_with fail
 refine (gJ w.heap.size w.heap.size [] 39 _ (Bld.fresh w) (by omega) (by omega) (by simp) (by simp)).mono ?_
 rintro e w1 ⟨rfl,hbld1,hbel1,-⟩
 have hB1:=hq7 (show Below w.heap.size w w1 from ((Below.refl _ w).alloc (Nat.le_refl _) _).trans hbel1)
 have hL1:=hq7 hbld1
 clear hbel1 hbld1
 go_wp2_with fail
 go_loopg [9] s.size (fun g x wx=> ∃(k:Nat) (acc:List UInt8),k+g=s.size∧x= .int .i64 k∧qF s w k acc wx)
 case atStart=>exact ⟨0, [39],by omega,rfl,⟨by simp,by simp,hB1.out,hL1.out⟩⟩
 case round=>
  obtain ⟨k,acc,hk,rfl,hrel⟩:=hrel
  have hlen:=hrel.len
  have hsz:=hrel.bel.size
  have HQ:=hq7 hrel
  clear hrel
  cases gk with
  | zero=>
   obtain rfl:k=s.size:=by omega
   have ht:acc ++ [39]=Lex.quote s.data.toList:=by
    rw [HQ.out.text,List.take_of_length_le (by rw [←Lib.size_eq];omega)]
    rfl
   have HT:=hq7 ht
   clear ht
   go_wp2_with fail
   refine (gJ w.heap.size w.heap.size acc 39 _ HQ.out.bld (by omega) (by omega) (by omega) hsz).mono ?_
   rintro e w2 ⟨rfl,hbld2,hbel2,-⟩
   have hsz2:=hbel2.size
   have HB2:=hq7 (HQ.out.bel.trans hbel2)
   go_wp2_with fail
   refine (tC w.heap.size w.heap.size _ w2 hbld2 (by omega)).mono ?_
   rintro e w3 ⟨rfl,hbld3,hbel3,-⟩
   go_wp2
   go_ret
   exact ⟨by rw [←HT.out];rfl,HB2.out.trans hbel3⟩
  | succ g=>
   have hlt:k<s.size:=by omega
   have hlti:(k:Int)<s.size:=by omega
   have t1:decide (k<s.size)=true:=decide_eq_true hlt
   have hnext:=fun (acc':List UInt8) (wy:World) (ha:acc'=acc ++ Lex.q1 (s[k]'hlt)) (hb:Below w.heap.size wr wy) (hl:Bld w.heap.size w.heap.size acc' wy)=>HQ.out.next hlt ha hb hl
   have HN:=hq7 hnext
   have hbld:=HQ.out.bld
   have HBL:=hq7 hbld
   have HKG:=hq7 hk
   have hk4:k≤67108864:=by omega
   obtain ⟨c,hc⟩: ∃c,s[k]'hlt=c:=⟨_,rfl⟩
   rw [hc] at HN
   clear hbld hnext HQ hk hs
   by_cases h10:c=10
   ·subst h10
    go_wp2_with fail
    refine (jg w.heap.size w.heap.size acc _ _ HBL.out (by decide) (by omega) hsz).mono ?_
    rintro e w2 ⟨rfl,hbld2,hbel2,-⟩
    have HR:=hq7 (HN.out _ _ rfl hbel2 hbld2)
    clear hbld2 hbel2
    go_wp2
    go_roundg g
    case measure=>omega
    case rel=>exact ⟨k+1,_,by have:=HKG.out;omega,int_eq' (by omega),HR.out⟩
   by_cases h13:c=13
   ·subst h13
    go_wp2_with fail
    refine (jg w.heap.size w.heap.size acc _ _ HBL.out (by decide) (by omega) hsz).mono ?_
    rintro e w2 ⟨rfl,hbld2,hbel2,-⟩
    have HR:=hq7 (HN.out _ _ rfl hbel2 hbld2)
    clear hbld2 hbel2
    go_wp2
    go_roundg g
    case measure=>omega
    case rel=>exact ⟨k+1,_,by have:=HKG.out;omega,int_eq' (by omega),HR.out⟩
   by_cases h9:c=9
   ·subst h9
    go_wp2_with fail
    refine (jg w.heap.size w.heap.size acc _ _ HBL.out (by decide) (by omega) hsz).mono ?_
    rintro e w2 ⟨rfl,hbld2,hbel2,-⟩
    have HR:=hq7 (HN.out _ _ rfl hbel2 hbld2)
    clear hbld2 hbel2
    go_wp2
    go_roundg g
    case measure=>omega
    case rel=>exact ⟨k+1,_,by have:=HKG.out;omega,int_eq' (by omega),HR.out⟩
   by_cases h92:c=92
   ·subst h92
    go_wp2_with fail
    refine (gJ w.heap.size w.heap.size acc 92 _ HBL.out (by omega) (by omega) (by omega) hsz).mono ?_
    rintro e w2 ⟨rfl,hbld2,hbel2,-⟩
    have hsz2:=Nat.le_trans hsz hbel2.size
    have hl2:(acc ++ [(Int.toNat 92).toUInt8]).length<1073741824:=by rw [List.length_append,List.length_singleton];omega
    have HB2:=hq7 hbel2
    have HL2:=hq7 hbld2
    clear hbel2 hbld2
    go_wp2_with fail
    refine (gJ w.heap.size w.heap.size _ 92 _ HL2.out (by omega) (by omega) hl2 hsz2).mono ?_
    rintro e w3 ⟨rfl,hbld3,hbel3,-⟩
    have HR:=hq7 (HN.out _ _ (by rw [Lex.Cm (by decide),List.append_assoc];rfl) (HB2.out.trans hbel3) hbld3)
    clear hbld3 hbel3 hl2
    go_wp2
    go_roundg g
    case measure=>omega
    case rel=>exact ⟨k+1,_,by have:=HKG.out;omega,int_eq' (by omega),HR.out⟩
   by_cases h39:c=39
   ·subst h39
    go_wp2_with fail
    refine (gJ w.heap.size w.heap.size acc 92 _ HBL.out (by omega) (by omega) (by omega) hsz).mono ?_
    rintro e w2 ⟨rfl,hbld2,hbel2,-⟩
    have hsz2:=Nat.le_trans hsz hbel2.size
    have hl2:(acc ++ [(Int.toNat 92).toUInt8]).length<1073741824:=by rw [List.length_append,List.length_singleton];omega
    have HB2:=hq7 hbel2
    have HL2:=hq7 hbld2
    clear hbel2 hbld2
    go_wp2_with fail
    refine (gJ w.heap.size w.heap.size _ 39 _ HL2.out (by omega) (by omega) hl2 hsz2).mono ?_
    rintro e w3 ⟨rfl,hbld3,hbel3,-⟩
    have HR:=hq7 (HN.out _ _ (by rw [Lex.Cm (by decide),List.append_assoc];rfl) (HB2.out.trans hbel3) hbld3)
    clear hbld3 hbel3 hl2
    go_wp2
    go_roundg g
    case measure=>omega
    case rel=>exact ⟨k+1,_,by have:=HKG.out;omega,int_eq' (by omega),HR.out⟩
   have t10:(((c.toNat:Nat):Int) == 10)=false:=bq (k:=10) rfl (beq_eq_false_iff_ne.2 h10)
   have t13:(((c.toNat:Nat):Int) == 13)=false:=bq (k:=13) rfl (beq_eq_false_iff_ne.2 h13)
   have t9:(((c.toNat:Nat):Int) == 9)=false:=bq (k:=9) rfl (beq_eq_false_iff_ne.2 h9)
   have t92:(((c.toNat:Nat):Int) == 92)=false:=bq (k:=92) rfl (beq_eq_false_iff_ne.2 h92)
   have t39:(((c.toNat:Nat):Int) == 39)=false:=bq (k:=39) rfl (beq_eq_false_iff_ne.2 h39)
   have hcb:=byte_le c
   have hu:=eu
   by_cases h32:c.toNat<32
   ·have ho:Lex.odd c=true:=by simp only [Lex.odd];rw [decide_eq_true h32];rfl
    have HO:=hq7 (Lex.CB h10 h13 h9 ho)
    have d1:decide (32≤(c.toNat:Int))=false:=decide_eq_false (by omega)
    have hq1:c.toNat / 16<16:=by have:=UInt8.toNat_lt c;omega
    have hq2:c.toNat % 16<16:=by omega
    have i1:((c.toNat:Int) / 16)<16:=by omega
    have i2:((c.toNat:Int) % 16)<16:=by omega
    have hand:bits BinOp.and IntKind.u8 (c.toNat:Int) 15=((c.toNat % 16:Nat):Int):=and15 c
    have hd1:=fun h=>dig16 (c.toNat / 16) hq1 h
    have hd2:=fun h=>dig16 (c.toNat % 16) hq2 h
    obtain ⟨x1,hx1⟩: ∃x,Num.bC (c.toNat / 16)=x:=⟨_,rfl⟩
    obtain ⟨x2,hx2⟩: ∃x,Num.bC (c.toNat % 16)=x:=⟨_,rfl⟩
    rw [hx1,hx2] at HO
    rw [hx1] at hd1
    rw [hx2] at hd2
    clear hx1 hx2 h10 h13 h9 h92 h39 ho
    have hb1:=byte_le x1
    have hb2:=byte_le x2
    go_wp2_with fail
    refine (jg w.heap.size w.heap.size acc _ _ HBL.out (by decide) (by omega) hsz).mono ?_
    rintro e w2 ⟨rfl,hbld2,hbel2,-⟩
    have hsz2:=Nat.le_trans hsz hbel2.size
    have HB2:=hq7 hbel2
    have HL2:=hq7 hbld2
    clear hbel2 hbld2
    go_wp2_with fail
    refine (gJ w.heap.size w.heap.size _ (x1.toNat:Int) _ HL2.out (by omega) (by omega) (by rw [List.length_append];show acc.length+2<_;omega) hsz2).mono ?_
    rintro e w3 ⟨rfl,hbld3,hbel3,-⟩
    have hsz3:=Nat.le_trans hsz2 hbel3.size
    have HB3:=hq7 (HB2.out.trans hbel3)
    have HL3:=hq7 hbld3
    clear hbel3 hbld3 HL2 HB2
    go_wp2_with fail
    refine (gJ w.heap.size w.heap.size _ (x2.toNat:Int) _ HL3.out (by omega) (by omega) (by rw [List.length_append,List.length_append];show acc.length+2+1<_;omega) hsz3).mono ?_
    rintro e w4 ⟨rfl,hbld4,hbel4,-⟩
    have HR:=hq7 (HN.out _ _ (by rw [HO.out,byte_back,byte_back,←List.append_assoc,←List.append_assoc]) (HB3.out.trans hbel4) hbld4)
    clear hbld4 hbel4
    go_wp2
    go_roundg g
    case measure=>omega
    case rel=>exact ⟨k+1,_,by have:=HKG.out;omega,int_eq' (by omega),HR.out⟩
   by_cases h126:126<c.toNat
   ·have ho:Lex.odd c=true:=by simp only [Lex.odd];rw [decide_eq_true h126,Bool.or_true]
    have HO:=hq7 (Lex.CB h10 h13 h9 ho)
    have d1:decide (32≤(c.toNat:Int))=true:=decide_eq_true (by omega)
    have d2:decide ((c.toNat:Int)≤126)=false:=decide_eq_false (by omega)
    have hq1:c.toNat / 16<16:=by have:=UInt8.toNat_lt c;omega
    have hq2:c.toNat % 16<16:=by omega
    have i1:((c.toNat:Int) / 16)<16:=by omega
    have i2:((c.toNat:Int) % 16)<16:=by omega
    have hand:bits BinOp.and IntKind.u8 (c.toNat:Int) 15=((c.toNat % 16:Nat):Int):=and15 c
    have hd1:=fun h=>dig16 (c.toNat / 16) hq1 h
    have hd2:=fun h=>dig16 (c.toNat % 16) hq2 h
    obtain ⟨x1,hx1⟩: ∃x,Num.bC (c.toNat / 16)=x:=⟨_,rfl⟩
    obtain ⟨x2,hx2⟩: ∃x,Num.bC (c.toNat % 16)=x:=⟨_,rfl⟩
    rw [hx1,hx2] at HO
    rw [hx1] at hd1
    rw [hx2] at hd2
    clear hx1 hx2 h10 h13 h9 h92 h39 ho
    have hb1:=byte_le x1
    have hb2:=byte_le x2
    go_wp2_with fail
    refine (jg w.heap.size w.heap.size acc _ _ HBL.out (by decide) (by omega) hsz).mono ?_
    rintro e w2 ⟨rfl,hbld2,hbel2,-⟩
    have hsz2:=Nat.le_trans hsz hbel2.size
    have HB2:=hq7 hbel2
    have HL2:=hq7 hbld2
    clear hbel2 hbld2
    go_wp2_with fail
    refine (gJ w.heap.size w.heap.size _ (x1.toNat:Int) _ HL2.out (by omega) (by omega) (by rw [List.length_append];show acc.length+2<_;omega) hsz2).mono ?_
    rintro e w3 ⟨rfl,hbld3,hbel3,-⟩
    have hsz3:=Nat.le_trans hsz2 hbel3.size
    have HB3:=hq7 (HB2.out.trans hbel3)
    have HL3:=hq7 hbld3
    clear hbel3 hbld3 HL2 HB2
    go_wp2_with fail
    refine (gJ w.heap.size w.heap.size _ (x2.toNat:Int) _ HL3.out (by omega) (by omega) (by rw [List.length_append,List.length_append];show acc.length+2+1<_;omega) hsz3).mono ?_
    rintro e w4 ⟨rfl,hbld4,hbel4,-⟩
    have HR:=hq7 (HN.out _ _ (by rw [HO.out,byte_back,byte_back,←List.append_assoc,←List.append_assoc]) (HB3.out.trans hbel4) hbld4)
    clear hbld4 hbel4
    go_wp2
    go_roundg g
    case measure=>omega
    case rel=>exact ⟨k+1,_,by have:=HKG.out;omega,int_eq' (by omega),HR.out⟩
   have ho:Lex.odd c=false:=by simp only [Lex.odd];rw [decide_eq_false h32,decide_eq_false h126];rfl
   have HO:=hq7 (Lex.Lh h92 h39 ho)
   have d1:decide (32≤(c.toNat:Int))=true:=decide_eq_true (by omega)
   have d2:decide ((c.toNat:Int)≤126)=true:=decide_eq_true (by omega)
   clear h10 h13 h9 h92 h39 ho
   go_wp2_with fail
   refine (gJ w.heap.size w.heap.size acc (c.toNat:Int) _ HBL.out (by omega) (by omega) (by omega) hsz).mono ?_
   rintro e w2 ⟨rfl,hbld2,hbel2,-⟩
   have HR:=hq7 (HN.out _ _ (by rw [HO.out,byte_back]) hbel2 hbld2)
   clear hbld2 hbel2
   go_wp2
   go_roundg g
   case measure=>omega
   case rel=>exact ⟨k+1,_,by have:=HKG.out;omega,int_eq' (by omega),HR.out⟩
end Go.Proofs.YtoofbflplhbpbaaGreatDoor
namespace Go.Proofs.YtoofbflplhbpbaaGreatDoor
open Go.RowKit
theorem CG: ∀(l:List Lex.Tok) (i:Nat) (t:Lex.Tok) (j:Nat),j<4→l[i]?=some t→(fF l)[i*4+j]?=(kG t)[j]?
 | [],i,t,j,hj,h=>by simp at h
 | u :: r,0,t,j,hj,h=>by
  simp at h
  subst h
  rw [fF,List.flatMap_cons,List.getElem?_append_left (by simp [kG];omega)]
  simp
 | u :: r,i+1,t,j,hj,h=>by
  rw [List.getElem?_cons_succ] at h
  have ih:=CG r i t j hj h
  rw [fF,List.flatMap_cons,List.getElem?_append_right (by simp [kG];omega),←fF]
  rw [show (i+1)*4+j -(kG u).length=i*4+j by simp [kG];omega]
  exact ih
end Go.Proofs.YtoofbflplhbpbaaGreatDoor
namespace Go.Proofs.YtoofbflplhbpbaaGreatDoor
open Go Go.RowKit
variable {P:Program} {md:Region.Mode} {ops:Array Oper} {C:World→Prop}
def nV (P:Program) (md:Region.Mode) (ops:Array Oper) (C:World→Prop) (n:Nat) (L:Array Bool→Act→Prop):Nat→Array Bool→Act→Prop
 | 0,listed,a=>L listed a
 | f+1,listed,a=>Region.ready md ops listed≠ []∧ ∀i∈Region.ready md ops listed,i<n∧qOp P ops C i (nV P md ops C n L f (listed.setIfInBounds i true)) a
theorem CJ {n g:Nat} {L:Array Bool→Act→Prop} {Q':Exit→Act→World→Prop} (hL: ∀listed a w,C w→L listed a→wpAny P md ops Q' g listed a w):
  ∀(f:Nat) (listed:Array Bool) (a:Act) (w:World),C w→nV P md ops C n L f listed a→wpAny P md ops Q' (f+g) listed a w
 | 0,listed,a,w,hw,h=>by rw [Nat.zero_add];exact hL _ _ _ hw h
 | f+1,listed,a,w,hw,h=>by
  rw [Nat.add_right_comm]
  exact ⟨fun h0=>absurd h0 h.1,fun i hi=>wpOp_of_qOp hw (fun a' w' hw' h'=>CJ hL f _ a' w' hw' h') (h.2 i hi).2⟩
theorem CO {n i:Nat} {oi:Oper} {v:Value} {L:Array Bool→Act→Prop} (hi:ops[i]?=some oi) (hsel: ∀(j:Nat) (o:Oper) cs b,ops[j]?=some o→o.op≠ .select cs b)
  (hs:Region.sinkB md ops n=true) (hc:Region.chainB md ops n=true) (hn:n<ops.size) (hin:i<n) (hdone: ∀listed a,L listed a→ ∀j∈Region.ready md ops listed,n≤j):
  ∀(f:Nat) (listed:Array Bool) (a:Act),HeadInv md ops n listed→
   (∀j oj,ops[j]?=some oj→j≠i→listed.getD j true=false→(∀e∈oj.after,Region.binds md e=true→e.on≠i)→oi.apart ops oj=true)→
   i∈Region.ready md ops listed→YieldsIn P ops C oi v a→nV P md ops C n L f (listed.setIfInBounds i true) (a.put oi.dst v)→nV P md ops C n L (f+1) listed a
 | 0,listed,a,inv,_,hr,hy,H=>by
  refine ⟨List.ne_nil_of_mem hr,fun j hj=> ?_⟩
  have hjn:j<n:=Nat.lt_of_not_le fun h=>absurd hj (tail_waits hs hc hn inv _ i rfl hin (mem_ready.1 hr).1 j h)
  by_cases hji:j=i
  ·subst hji;exact ⟨hjn,hy.qOp hi H⟩
  ·exact absurd (hdone _ _ H j (ready_mono hj hji)) (by omega)
 | f+1,listed,a,inv,hfree,hr,hy,H=>by
  have hun:=(mem_ready.1 hr).1
  refine ⟨List.ne_nil_of_mem hr,fun j hj=> ?_⟩
  have hjn:j<n:=Nat.lt_of_not_le fun h=>absurd hj (tail_waits hs hc hn inv _ i rfl hin hun j h)
  by_cases hji:j=i
  ·subst hji;exact ⟨hjn,hy.qOp hi H⟩
  ·obtain ⟨hjun,oj,hoj,hall⟩:=mem_ready.1 hj
   have hnot: ∀e∈oj.after,Region.binds md e=true→e.on≠i:=fun e he hb heq=>by
    have h1:=hall e he hb
    rw [heq,getD_both hun] at h1
    cases h1
   have h2:=qOp_put hoj (hfree j oj hoj hji hjun hnot) (fun cs b=>hsel i oi cs b hi) (fun cs b=>hsel j oj cs b hoj) hy (H.2 j (ready_mono hj hji)).2
   refine ⟨hjn,qOp_mono (fun a' h3=>CO hi hsel hs hc hn hin hdone f (listed.setIfInBounds j true) a' (inv.set hj hjn) (fun k ok hk hki hu hno=>hfree k ok hk hki ?_ hno) (ready_mono hr (Ne.symm hji)) h3.1 ?_) h2⟩
   ·by_cases hjk:j=k
    ·subst hjk;exact hjun
    ·rw [getD_set_ne true hjk] at hu;exact hu
   ·rw [Array.setIfInBounds_comm _ _ hji]
    exact h3.2
theorem CP {n g:Nat} {Lq:Act→Prop} (hsel:Region.noSelect ops=true) (hs:Region.sinkB md ops n=true) (hc:Region.chainB md ops n=true) (hn:n<ops.size):
  ∀(l:List Oper) (k:Nat) (listed:Array Bool) (a:Act),(∀j,j<l.length→l[j]?=ops[k+j]?)→k+l.length=n→HeadInv md ops n listed→
  Region.lexHead md ops g l.length k listed=true→wpQuiet P ops C Lq l a→nV P md ops C n (fun listed' a'=>Region.seqB md ops g n listed'=true∧Lq a') l.length listed a
 | [],k,listed,a,_,hk,_,hB,h=>by
  obtain rfl:k=n:=by simpa using hk
  exact ⟨by simpa [Region.lexHead] using hB,h⟩
 | o :: l,k,listed,a,hl,hk,inv,hB,h=>by
  have h0:ops[k]?=some o:=by simpa using (hl 0 (by simp)).symm
  simp only [List.length_cons,Region.lexHead,Bool.and_eq_true] at hB
  obtain ⟨⟨hr,hf⟩,hB'⟩:=hB
  have hkn:k<n:=by simp only [List.length_cons] at hk;omega
  have hr':k∈Region.ready md ops listed:=by simpa using hr
  have hst:qOp P ops C k (wpQuiet P ops C Lq l) a:=by unfold qOp;simp only [h0];exact h
  obtain ⟨v,hy,hK⟩:=yieldsIn_of_qOp h0 hst
  exact CO h0 (Region.noSelect_spec hsel) hs hc hn hkn (fun listed' a' hL=>seqB_ready hL.1) l.length listed a inv (Region.free_spec h0 hf) hr' hy
   (CP hsel hs hc hn l (k+1) _ _ (fun j hj=>by have:=hl (j+1) (by simp;omega);simpa [Nat.add_assoc,Nat.add_comm 1 j] using this) (by simp only [List.length_cons] at hk;omega) (inv.set hr' hkn) hB' hK)
theorem CQ {id:Nat} {Q:Exit→Act→World→Prop} {a:Act} {w:World} {l:List Oper} (n:Nat) (hm:P.follows .mixedOrders=true) (hB:Region.lexTailB .any l.toArray n=true) (hC:C {w with drawn:=w.drawn+1})
  (h:wpQuiet P l.toArray C (fun a'=> ∀w',C w'→wpList P l.toArray Q (l.drop n) a' w') (l.take n) a):(Code.region id l.toArray true).wp P Q a w:=by
 simp only [Region.lexTailB,Bool.and_eq_true,decide_eq_true_eq] at hB
 obtain ⟨⟨⟨⟨hsel,hn⟩,hs⟩,hc⟩,hlex⟩:=hB
 have hn':n<l.length:=by simpa using hn
 have htl:(l.take n).length=n:=by simp;omega
 have hdl:(l.drop n).length=l.toArray.size - n:=by simp
 have inv0:HeadInv .any l.toArray n (Array.replicate l.toArray.size false):=
  ⟨by simp,fun j oj _ hl=>(by rw [getD_replicate_false] at hl;cases hl),fun t _ ht=>getD_in (by simpa using ht) (getD_replicate_false _ _)⟩
 have H:=CP (md:= .any) (g:=l.toArray.size - n) hsel hs hc hn (l.take n) 0 _ a (fun j hj=>by
  have hj':j<n:=by rw [htl] at hj;exact hj
  simp [hj']) (by simpa using htl) inv0 (by rw [htl];exact hlex) h
 refine wp_region_any hm ?_
 have:=CJ (Q':=Q) (g:=l.toArray.size - n) (fun listed a' w' hw hL=>by
  have:=wpAny_of_seq (md:= .any) (Q':=Q) (l.drop n) n listed a' w' (fun j=>by simp [List.getElem?_drop]) (by rw [hdl];exact hL.1) (hL.2 w' hw)
  rwa [hdl] at this) _ _ _ {w with drawn:=w.drawn+1} hC H
 rw [htl,show n+(l.toArray.size - n)=l.toArray.size by omega] at this
 exact this
def wide (w:World) (n:Nat) (os:Array Obj):World:={w with drawn:=n,heap:=w.heap ++ os}
structure jM where
 n:Nat
 os:Array Obj
instance:Inhabited jM:=⟨⟨0,#[]⟩⟩
theorem uX (w:World) (n:Nat) (os:Array Obj):w.heap.size≤(wide w n os).heap.size:=by unfold wide;rw [Array.size_append];omega
theorem jo (w:World) (n:Nat) (os:Array Obj):Below w.heap.size w (wide w n os):=⟨rfl,rfl,rfl,uX w n os,fun k hk=>by unfold wide;exact Array.getElem?_append_left hk⟩
theorem fA {w:World} {a:Addr} {v:Value} (hb:a.block<w.heap.size) (h:w.cell? a=some v) (n:Nat) (os:Array Obj):(wide w n os).cell? a=some v:=by rw [←h];exact (jo w n os).cell hb
theorem uY {w w':World} (h:Below w.heap.size w w'): ∃p:jM,w'=wide w p.n p.os:=by
 refine ⟨⟨w'.drawn,w'.heap.extract w.heap.size w'.heap.size⟩, ?_⟩
 have hh:w'.heap=w.heap ++ w'.heap.extract w.heap.size w'.heap.size:=by
  refine Array.ext_getElem? fun i=> ?_
  rcases Nat.lt_or_ge i w.heap.size with hi | hi
  ·rw [Array.getElem?_append_left hi,h.block i hi]
  ·rw [Array.getElem?_append_right hi,Array.getElem?_extract]
   have:=h.size
   split
   ·congr 1;omega
   ·exact Array.getElem?_eq_none (by omega)
 have h1:=h.os
 have h2:=h.tape
 have h3:=h.output
 cases w'
 cases w
 simp only [wide] at*
 subst h1 h2 h3
 rw [←hh]
theorem nX {f:FuncId} {args:Array Value} {w:World} {n:Nat} {os:Array Obj} {v:Value} (h:Calls P f args (wide w n os) fun e w'=>e= .returned v∧Below (wide w n os).heap.size (wide w n os) w'):
  Calls P f args (wide w n os) fun e w'=>e= .returned v∧ ∃p:jM,w'=wide w p.n p.os:=
 h.mono fun _ _ ⟨he,hb⟩=>⟨he,uY ((jo w n os).trans (hb.mono (uX w n os)))⟩
theorem CS {id:Nat} {Q:Exit→Act→World→Prop} {a:Act} {w:World} {l:List Oper} (n:Nat) (hm:P.follows .mixedOrders=true) (hB:Region.lexTailB .any l.toArray n=true)
  (h:wpQuiet P l.toArray (fun w'=> ∃p:jM,w'=wide w p.n p.os) (fun a'=> ∀w',(∃p:jM,w'=wide w p.n p.os)→wpList P l.toArray Q (l.drop n) a' w') (l.take n) a):(Code.region id l.toArray true).wp P Q a w:=
 CQ (C:=fun w'=> ∃p:jM,w'=wide w p.n p.os) n hm hB (uY ⟨rfl,rfl,rfl,Nat.le_refl _,fun _ _=>rfl⟩) h
theorem Lp {id:Nat} {Q:Exit→Act→World→Prop} {a:Act} {w:World} {l:List Oper} (n:Nat) (hm:P.follows .mixedOrders=true) (hB:Region.lexTailB .any l.toArray n=true)
  (h:wpQuiet P l.toArray (fun w'=> ∃n,w'=w.drewN n) (fun a'=> ∀w',(∃n,w'=w.drewN n)→wpList P l.toArray Q (l.drop n) a' w') (l.take n) a):(Code.region id l.toArray true).wp P Q a w:=
 CQ (C:=fun w'=> ∃n,w'=w.drewN n) n hm hB ⟨1,rfl⟩ h
theorem Lr {id:Nat} {Q:Exit→Act→World→Prop} {a:Act} {w:World} {l:List Oper} (hm:P.follows .mixedOrders=true) (hB:Region.lexB .any l.toArray=true)
  (h:wpQuiet P l.toArray (fun w'=> ∃p:jM,w'=wide w p.n p.os) (fun a'=> ∀w',(∃p:jM,w'=wide w p.n p.os)→Q .normal a' w') l a):(Code.region id l.toArray true).wp P Q a w:=
 wp_region_quiet (C:=fun w'=> ∃p:jM,w'=wide w p.n p.os) hm hB (uY ⟨rfl,rfl,rfl,Nat.le_refl _,fun _ _=>rfl⟩) (by simpa using h)
end Go.Proofs.YtoofbflplhbpbaaGreatDoor
