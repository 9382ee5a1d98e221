/- Contracts and plain laws,part 16. -/
import Derived.Test.YtoofbflplhbpbaaGreatDoorUO09
import Derived.RangeFuncNested
import Derived.RangeFuncBound
import Derived.RangeFuncCalls
import Derived.RangeFuncLeaves
import Derived.Shelf.Abstract
import Derived.Shelf.RegionOpen
import Derived.OwnWalkIn
import Derived.TacticsInMore
import Derived.LoopNIn
import Derived.LoopIn
set_option maxHeartbeats 64000000
set_option maxRecDepth 1000000
set_option linter.all false
namespace Go.Proofs.YtoofbflplhbpbaaGreatDoor
open Go.RowKit
theorem ahe (s:ByteArray) (k:Nat):(s.extract k s.size).data.toList=s.data.toList.drop k:=by
 rw [Lib.extract_data,acg];rw [acM,<-Lib.size_eq];omega
theorem Nh (i o e:Nat):jv (.err o e) i= .agg #[.int .i64 0, .string ⟨#[]⟩, .int .i64 0, .int .i64 ((i+o:Nat):Int), .int .i64 0, .int .i64 (e:Int)]:=rfl
namespace Lex
def ahf (g:Nat) (r:L) (o:Nat) (acc:L):Option (UInt8×Nat)->jQ
 | none=> .err o 242
 | some (y,n)=>dM (g+1) (r.drop n) (o+1+n) (acc ++ [y])
theorem ahg (g:Nat) (r:L) (o:Nat) (acc:L):dM (g+1+1) (92 :: r) o acc=ahf g r o acc (esc r):=by
 simp only [dM];rw [ab6 (by decide),ab6 (by decide),alQ]
 cases esc r with
 | none=>rfl
 | some x=>rfl
end Lex
structure ahh (s:ByteArray) (i:Nat) (R:Lex.jQ) (w:World) (g k o:Nat) (acc:List UInt8) (wx:World):Prop where
 off:i+o=k
 meas:s.size - k<=g
 len:acc.length<=k
 le:k<=s.size
 text:Lex.dM (g+1) (s.data.toList.drop k) o acc=R
 bel:Below w.heap.size w wx
 blk:aj wx w.heap.size 207 #[.int .i64 0, .string ⟨#[]⟩, .int .i64 0, .int .i64 0, .int .i64 0, .int .i64 0]
 qX:gQ (w.heap.size+1) (w.heap.size+1) acc wx
 big:w.heap.size+1<=wx.heap.size
theorem ahi (s:ByteArray) (i:Nat) (w:World) (hs:s.size<=1073741823) (hi:i<s.size):
  Calls Tryz.prog 202 #[.string s, .int .i64 i] w (vJ (Lex.dM (s.size - i) (s.data.toList.drop (i+1)) 1 []) i w):=by
 obtain ⟨R,hR⟩: ∃R,Lex.dM (s.size - i) (s.data.toList.drop (i+1)) 1 []=R:=⟨_,rfl⟩;rw [hR]
 have HR:=ah hR;clear hR;have hii:(i:Int)<s.size:=by omega
 go_enter Tryz.func202,Tryz.ntmps202;go_wp2
 go_loopg [6] (s.size -(i+1)) (fun g x wx=> ∃(k o:Nat) (acc:List UInt8),x= .int .i64 k/\ahh s i R w g k o acc wx)
 case atStart=>
  refine ⟨i+1,1, [],int_eq' (by omega),⟨by omega,by omega,by simp,by omega, ?_, ?_, ?_, ?_, ?_⟩⟩
  ·rw [show s.size -(i+1)+1=s.size - i by omega];exact HR.out
  ·exact ((Below.refl _ w).alloc (ab1 _) _).alloc (by simp) _
  ·exact (aj.new _ _ _).alloc _
  ·have:=gQ.fresh (w.alloc (.cells #[.int .i64 0, .string ⟨#[]⟩, .int .i64 0, .int .i64 0, .int .i64 0, .int .i64 0] 207));simpa using this
  simp
 obtain ⟨k,o,acc,rfl,hrel⟩:=hrel;have HQ:=ah hrel;have hsz:=hrel.big;have hkle:=hrel.le
 have hki:(k:Int)<=1073741823:=by omega
 clear hrel;by_cases hlt:k<s.size
 ·have zK:(k:Int)<s.size:=by omega
  have t1:decide (k<s.size)=true:=abW hlt;cases gk with
  | zero=>have:=HQ.out.meas;omega
  | succ g=>
   have hst:=HQ.out.text;rw [vI hlt] at hst;obtain ⟨c,hc⟩: ∃c,s[k]'hlt=c:=⟨_,rfl⟩
   rw [hc] at hst;have hb:=byte_le c;by_cases dB:c=39
   ·subst dB
    have hR2:R= .tok 4 acc 0 (o+1):=hst.symm
    have hend:((i+(o+1):Nat):Int)=(k:Int)+1:=by have:=HQ.out.off;omega
    have ht:jv R i= .agg #[.int .i64 4, .string ⟨acc.toArray⟩, .int .i64 0, .int .i64 i, .int .i64 ((k:Int)+1), .int .i64 0]:=by
     rw [hR2];simp only [jv];rw [hend];rfl
    have HT:=ah ht;clear hst hR2 hend ht;go_wp2_with fail
    refine (Qz (w.heap.size+1) (w.heap.size+1) acc wr HQ.out.qX hsz).mono ?_
    rintro e w2 ⟨rfl,fC,bT,-⟩;have hz2:=bT.size
    have aC:=ah (HQ.out.blk.below bT (by omega))
    obtain ⟨g0,g1,g2,g3,g4,g5,f0,f1,f2,f3,f4,f5⟩:=jK aC.out
    have HB2:=ah (HQ.out.bel.trans (bT.mono (B':=w.heap.size) (by omega)))
    clear bT fC;go_wp2;exact qC Tryz.results202 rfl aC.out HB2.out HT.out
   have t39:(((c.toNat:Nat):Int) == 39)=false:=bq (k:=39) rfl (ab3.2 dB);by_cases dX:c=92
   ·subst dX
    obtain ⟨z,hz⟩: ∃z,s.extract (k+1) s.size=z:=⟨_,rfl⟩
    have hzd:z.data.toList=s.data.toList.drop (k+1):=by rw [<-hz,ahe]
    have hzl:z.data.toList.length=s.size -(k+1):=by rw [hzd,acM,<-Lib.size_eq]
    have hzs:z.size<=1073741824:=by rw [Lib.size_eq,hzl];omega
    have Uf:=fun (W:World)=>agb z W hzs
    obtain ⟨x,hx⟩: ∃x,Lex.esc z.data.toList=x:=⟨_,rfl⟩;rw [hx] at Uf
    have hst2:=Lex.ahg g (s.data.toList.drop (k+1)) o acc;rw [<-hzd,hx,hzd] at hst2
    rw [hst] at hst2;have HE:=ah Uf;have HX:=ah hx;have lN:=ah hzl
    have anu:(k:Int)+1<=s.size:=by omega
    have sN:=ah HQ.out.blk;have qY:=ah HQ.out.bel;clear hst hzd hzl hzs Uf hx t39
    cases x with
    | none=>
     have hR2:R= .err o 242:=hst2;have hoff:((i+o:Nat):Int)=k:=by have:=HQ.out.off;omega
     have ht:jv R i= .agg #[.int .i64 0, .string ⟨#[]⟩, .int .i64 0, .int .i64 k, .int .i64 0, .int .i64 242]:=by
      rw [hR2,Nh,hoff];rfl
     have HT:=ah ht;clear hst2 hR2 hoff ht;go_wp2_with fail;refine (HE.out _).mono ?_
     rintro e w1 ⟨hb1,c1,n1,rfl⟩;have hz1:=hb1.size
     have zN:=ah (sN.out.below hb1 (by omega))
     have x8:=ah (qY.out.trans (hb1.mono qY.out.size));clear hb1;go_wp2_with fail
     refine (Fp (k:Int) 242 _).mono ?_;rintro e w2 ⟨rfl,hb2⟩;have hz2:=hb2.size
     have aC:=ah (aj.below zN.out hb2 (by omega))
     obtain ⟨g0,g1,g2,g3,g4,g5,f0,f1,f2,f3,f4,f5⟩:=jK aC.out
     have HB2:=ah (Below.trans x8.out (hb2.mono x8.out.size));clear hb2;go_wp2
     exact qC Tryz.results202 rfl aC.out HB2.out HT.out
    | some x=>
     obtain ⟨y,n⟩:=x;have hn:=Lex.LX HX.out;rw [lN.out] at hn
     have hst3:R=Lex.dM (g+1) ((s.data.toList.drop (k+1)).drop n) (o+1+n) (acc ++ [y]):=hst2
     have HS:=ah hst3;have hyb:=byte_le y;have hLX:=HQ.out.qX;have Ug:=ah hLX
     have hal:=HQ.out.len;have hkn:(k:Int)+n<=s.size:=by omega
     clear hst2 hst3 hLX;go_wp2_with fail;refine (HE.out _).mono ?_;rintro e w1 ⟨hb1,rfl⟩
     have hz1:=hb1.size;have zN:=ah (sN.out.below hb1 (by omega))
     have x8:=ah (qY.out.trans (hb1.mono qY.out.size));have HLY:=ah (Ug.out.below hb1)
     clear hb1;go_wp2_with fail
     refine (rO (w.heap.size+1) (w.heap.size+1) acc (y.toNat:Int) _ HLY.out (by omega) (by omega) (by omega) (by omega)).mono ?_
     rintro e w2 ⟨rfl,fC,bT,-⟩;have hz2:=bT.size;have aC:=ah (zN.out.below bT (by omega))
     have HB2:=ah (x8.out.trans (bT.mono (B':=w.heap.size) (by omega)))
     have HL2:=ah fC;clear bT fC;go_wp2
     go_roundg g
     case measure=>omega
     refine ⟨k+1+n,o+1+n,acc ++ [(y.toNat:Int).toNat.toUInt8],int_eq' (by omega),⟨by have:=HQ.out.off;omega,by have:=HQ.out.meas;omega,by rw [dA,adX];omega,by omega, ?_,HB2.out,aC.out,HL2.out,by omega⟩⟩
     rw [byte_back,HS.out,alW]
   have zL:(((c.toNat:Nat):Int) == 92)=false:=bq (k:=92) rfl (ab3.2 dX);have hu:=lD
   by_cases ho:Lex.odd c=true
   ·have hR2:R= .err o 240:=by
     rw [<-hst];simp only [Lex.dM];rw [ab6 dB,ab7 ho]
    have hoff:((i+o:Nat):Int)=k:=by have:=HQ.out.off;omega
    have ht:jv R i= .agg #[.int .i64 0, .string ⟨#[]⟩, .int .i64 0, .int .i64 k, .int .i64 0, .int .i64 240]:=by
     rw [hR2,Nh,hoff];rfl
    have HT:=ah ht;have sN:=ah HQ.out.blk;have qY:=ah HQ.out.bel
    clear hst hR2 hoff ht dB dX;by_cases h32:c.toNat<32
    ·have d1:decide ((c.toNat:Int)<32)=true:=abW (by omega)
     clear ho;go_wp2_with fail;refine (Fp (k:Int) 240 _).mono ?_;rintro e w2 ⟨rfl,hb2⟩
     have hz2:=hb2.size;have aC:=ah (aj.below sN.out hb2 (by omega))
     obtain ⟨g0,g1,g2,g3,g4,g5,f0,f1,f2,f3,f4,f5⟩:=jK aC.out
     have HB2:=ah (Below.trans qY.out (hb2.mono qY.out.size));clear hb2;go_wp2
     exact qC Tryz.results202 rfl aC.out HB2.out HT.out
    have d1:decide ((c.toNat:Int)<32)=false:=abX (by omega)
    have d2:decide (126<(c.toNat:Int))=true:=by
     simp only [Lex.odd] at ho;rw [abX h32,ao4] at ho;have:=aci ho;exact abW (by omega)
    clear ho;go_wp2_with fail;refine (Fp (k:Int) 240 _).mono ?_;rintro e w2 ⟨rfl,hb2⟩
    have hz2:=hb2.size;have aC:=ah (aj.below sN.out hb2 (by omega))
    obtain ⟨g0,g1,g2,g3,g4,g5,f0,f1,f2,f3,f4,f5⟩:=jK aC.out
    have HB2:=ah (Below.trans qY.out (hb2.mono qY.out.size));clear hb2;go_wp2
    exact qC Tryz.results202 rfl aC.out HB2.out HT.out
   have hodd:Lex.odd c=false:=by
    cases h:Lex.odd c with
    | false=>rfl
    | true=>exact absurd h ho
   have d1:decide ((c.toNat:Int)<32)=false:=by
    simp only [Lex.odd,Bool.or_eq_false_iff] at hodd;have:=ach hodd.1;exact abX (by omega)
   have d2:decide (126<(c.toNat:Int))=false:=by
    simp only [Lex.odd,Bool.or_eq_false_iff] at hodd;have:=ach hodd.2;exact abX (by omega)
   have hst2:Lex.dM (g+1) (s.data.toList.drop (k+1)) (o+1) (acc ++ [c])=R:=by
    rw [<-hst];exact (Lex.XW dB hodd dX).symm
   have HS:=ah hst2;have sN:=ah HQ.out.blk;have qY:=ah HQ.out.bel;have Ug:=ah HQ.out.qX
   have hal:=HQ.out.len;clear hst hst2 ho hodd dB dX;go_wp2_with fail
   refine (rO (w.heap.size+1) (w.heap.size+1) acc (c.toNat:Int) _ Ug.out (by omega) (by omega) (by omega) (by omega)).mono ?_
   rintro e w2 ⟨rfl,fC,bT,-⟩;have hz2:=bT.size;have aC:=ah (sN.out.below bT (by omega))
   have HB2:=ah (qY.out.trans (bT.mono (B':=w.heap.size) (by omega)))
   have HL2:=ah fC;clear bT fC;go_wp2
   go_roundg g
   case measure=>omega
   refine ⟨k+1,o+1,acc ++ [(c.toNat:Int).toNat.toUInt8],int_eq' (by omega),⟨by have:=HQ.out.off;omega,by have:=HQ.out.meas;omega,by rw [dA,adX];omega,by omega, ?_,HB2.out,aC.out,HL2.out,by omega⟩⟩
   rw [byte_back,HS.out]
 have t1:decide (k<s.size)=false:=abX hlt
 have hR2:R= .err 0 241:=by
  have:=HQ.out.text;rw [Dq (by omega)] at this
  exact this.symm
 have ht:jv R i= .agg #[.int .i64 0, .string ⟨#[]⟩, .int .i64 0, .int .i64 i, .int .i64 0, .int .i64 241]:=by
  rw [hR2,Nh,akz];rfl
 have HT:=ah ht;have sN:=ah HQ.out.blk;have qY:=ah HQ.out.bel;clear hR2 ht
 go_wp2_with fail;refine (Fp (i:Int) 241 _).mono ?_;rintro e w2 ⟨rfl,hb2⟩
 have hz2:=hb2.size;have aC:=ah (aj.below sN.out hb2 (by omega))
 obtain ⟨g0,g1,g2,g3,g4,g5,f0,f1,f2,f3,f4,f5⟩:=jK aC.out
 have HB2:=ah (Below.trans qY.out (hb2.mono qY.out.size));clear hb2;go_wp2
 exact qC Tryz.results202 rfl aC.out HB2.out HT.out
end Go.Proofs.YtoofbflplhbpbaaGreatDoor
namespace Go.Proofs.YtoofbflplhbpbaaGreatDoor
open Go.RowKit
theorem ahj (R:Lex.jQ) (i:Nat): ∃(v0:Int) (v1:ByteArray) (v2 v3 v4 v5:Int),jv R i= .agg #[.int .i64 v0, .string v1, .int .i64 v2, .int .i64 v3, .int .i64 v4, .int .i64 v5]:=by
 cases R<;> exact ⟨_,_,_,_,_,_,rfl⟩
theorem ahk: ∀c:Fin 256,Lib.contains [40,41,123,125,91,93,58,44,59,45] (Utf8.encode (wrap32 (c.val:Int))).data.toList=decide (UInt8.ofNat c.val∈Lex.MARKS):=by decide+kernel
theorem ahl (c:UInt8):Lib.contains [40,41,123,125,91,93,58,44,59,45] (Utf8.encode (wrap32 (c.toNat:Int))).data.toList=decide (c∈Lex.MARKS):=by
 have:=ahk ⟨c.toNat,aeE c⟩;simp only [akE] at this;exact this
theorem ahm (c:UInt8) (w:World) (hL:Laid w):
  Calls Tryz.prog 203 #[.string ⟨#[40,41,123,125,91,93,58,44,59,45]⟩, .string (Utf8.encode (wrap32 (c.toNat:Int)))] w fun e w'=>e= .returned (.bool (decide (c∈Lex.MARKS)))/\w=w':=by
 obtain ⟨m,hm⟩:=hL.max
 refine (Tryz.strings_Contains _ _ m w (by decide) hm).mono fun e w' ⟨he,hw⟩=>⟨?_,hw.symm⟩
 rw [he,<-ahl c]
namespace Lex
def behind (r:List UInt8):UInt8:=r.head?.getD 0
theorem Ru (r:List UInt8):r.head?.any Num.aP=Num.aP (behind r):=by
 cases r with
 | nil=>decide
 | cons a r=>rfl
theorem ZH (r:List UInt8):r.head?=some 62↔behind r=62:=by
 cases r with
 | nil=>simp [behind]
 | cons a r=>simp [behind]
theorem ZI {c:UInt8} (h:Num.aP c=true):c≠39/\isLet c=false/\c≠45:=by
 have: ∀c:Fin 256,Num.aP (UInt8.ofNat c.val)=true->UInt8.ofNat c.val≠39/\isLet (UInt8.ofNat c.val)=false/\UInt8.ofNat c.val≠45:=by decide+kernel
 have:=this ⟨c.toNat,aeE c⟩;simp only [akE] at this;exact this h
theorem ahn {c:UInt8} (h:isLet c=true):c≠39:=by
 rintro rfl;exact absurd h (by decide)
theorem aho {c:UInt8} (r:List UInt8) (h:isLet c=true):tok1 (c :: r)= .tok 1 ((c :: r).take (run bV (c :: r))) 0 (run bV (c :: r)):=by
 simp only [tok1];rw [ab6 (ahn h),ab7 h]
theorem ahp {c:UInt8} (r:List UInt8) (h:Num.aP c=true):tok1 (c :: r)=nH ((c :: r).take (1+run gW r)):=by
 simp only [tok1];rw [ab6 (ZI h).1,ab6 (by rw [(ZI h).2.1];decide),ab7 (.inl h)]
theorem ahq (r:List UInt8) (h:Num.aP (behind r)=true):tok1 (45 :: r)=nH ((45 :: r).take (1+run gW r)):=by
 simp only [tok1]
 rw [ab6 (by decide),ab6 (by decide),ab7 (.inr ⟨trivial,by rw [Ru];exact h⟩)]
theorem ahr (r:List UInt8):tok1 (39 :: r)=dM (r.length+1) r 1 []:=by
 simp only [tok1,alQ]
theorem ahs (r:List UInt8) (h:behind r=62):tok1 (45 :: r)= .tok 5 [45,62] 0 2:=by
 simp only [tok1];have hd:Num.aP (behind r)=false:=by rw [h];decide
 rw [ab6 (by decide),ab6 (by decide),ab6,ab7 ⟨trivial,(ZH r).2 h⟩]
 rintro (h1 |⟨_,h1⟩)
 ·exact absurd h1 (by decide)
 rw [Ru,hd] at h1;cases h1
theorem aht (r:List UInt8) (h1:Num.aP (behind r)=false) (h2:behind r≠62):tok1 (45 :: r)= .tok 5 [45] 0 1:=by
 simp only [tok1];rw [ab6 (by decide),ab6 (by decide),ab6,ab6,ab7 (by decide)]
 ·rintro ⟨_,h⟩;exact h2 ((ZH r).1 h)
 rintro (h |⟨_,h⟩)
 ·exact absurd h (by decide)
 rw [Ru,h1] at h;cases h
theorem ZJ {c:UInt8} (r:List UInt8) (h1:isLet c=false) (h2:Num.aP c=false) (h3:c≠39) (h4:c≠45):tok1 (c :: r)=if c∈MARKS then .tok 5 [c] 0 1 else .err 0 240:=by
 simp only [tok1];rw [ab6 h3,ab6 (by rw [h1];decide),ab6,ab6 (fun h=>h4 h.1)]
 rintro (h | h)
 ·rw [h2] at h;cases h
 exact h4 h.1
end Lex
theorem next_any (s:ByteArray) (i:Nat) (w:World) (hs:s.size<=1073741823) (hi:i<s.size) (hL:Laid w):
  Calls Tryz.prog 143 #[.string s, .int .i64 i] w (vJ (Lex.tok1 (s.data.toList.drop i)) i w):=by
 have hlen:=Lib.size_eq s;have hdrop:=vI hi;obtain ⟨c,hc⟩: ∃c,s[i]'hi=c:=⟨_,rfl⟩
 obtain ⟨r,hr⟩: ∃r,s.data.toList.drop (i+1)=r:=⟨_,rfl⟩;rw [hc,hr] at hdrop
 have hrl:r.length=s.size -(i+1):=by rw [<-hr,acM,hlen]
 obtain ⟨bh,hbh⟩: ∃b,Lex.behind r=b:=⟨_,rfl⟩;have hii:(i:Int)<s.size:=by omega
 have h1i:(i:Int)<=1073741823:=by omega
 obtain ⟨R,hR⟩: ∃R,Lex.tok1 (s.data.toList.drop i)=R:=⟨_,rfl⟩
 obtain ⟨v0,v1,v2,v3,v4,v5,hv⟩:=ahj R i
 have hword:=fun (W:World)=>agd s i W (by omega) (by omega)
 have hnum:=fun (W:World) (hb:Below w.heap.size w W)=>agj s i W (by omega) hi (hL.below hb)
 have Uh:=fun (W:World)=>ahi s i W hs hi
 rw [hdrop] at hword hnum hR;rw [hr] at hnum Uh
 have hcon:=fun (W:World) (hb:Below w.heap.size w W)=>ahm c W (hL.below hb)
 have Ui:=ah hcon;have hlt:=fun (W:World)=>Ym c W
 have hdg:=fun (W:World)=>Qx c W
 have hdb:=fun (W:World)=>Qx bh W
 have JC:=ah hword;have sH:=ah hnum;have JD:=ah Uh;have aB:=ah hlt;have Gn:=ah hdg
 have Gp:=ah hdb;have HR:=ah hR;have HV:=ah hv;have HDR:=ah hdrop;have aW:=ah hrl
 have wB:=ah hbh;have HRR:=ah hr
 rw [show Lex.tok1 (s.data.toList.drop i)=R by rw [hdrop];exact hR]
 clear hcon hword hnum Uh hlt hdg hdb hR hv hdrop hrl hlen hL
 go_enter Tryz.func143,Tryz.ntmps143
 go_upto_if 15 with (fail)
 go_cut [6] (fun v wx=>v= .int .u8 (bh.toNat:Int)/\w.alloc (.cells #[.int .i64 0, .string ⟨#[]⟩, .int .i64 0, .int .i64 0, .int .i64 0, .int .i64 0] 207)=wx)
 case first=>
  by_cases h1:i+1<s.size
  ·have Uj:(i:Int)+1<s.size:=by omega
   have t1:decide (i+1<s.size)=true:=abW h1
   have t1':decide ((i:Int)+1<s.size)=true:=abW Uj
   have hb1:s[i+1]'h1=bh:=by
    have:=HRR.out;rw [vI h1] at this;rw [<-wB.out,<-this];rfl
   go_wp2;go_meet;exact ⟨rfl,rfl⟩
  have t1:decide (i+1<s.size)=false:=abX h1
  have t1':decide ((i:Int)+1<s.size)=false:=abX (by omega)
  have hb0:bh=0:=by
   have:=HRR.out;rw [Dq (by omega)] at this
   rw [<-wB.out,<-this];rfl
  go_wp2;go_meet;exact ⟨by rw [hb0];rfl,rfl⟩
 obtain ⟨rfl,rfl⟩:=hcut;clear hr hbh;have hu:=lD;by_cases ha:Lex.isLet c=true
 ·have hl:=aB.out
  rw [ha] at hl;have dQ:=ah hl;have hR1:=HR.out;rw [Lex.aho r ha] at hR1;have hw:=JC.out
  rw [hR1] at hw;unfold vJ at hw;rw [HV.out] at hw;have HW:=ah hw
  clear hl hR1 hw ha aB Gn Gp sH JD JC;go_wp2_with fail;refine (dQ.out _).mono ?_
  rintro e w' ⟨rfl,rfl⟩;go_wp2_with fail;refine (HW.out _).mono ?_;rintro e w2 ⟨rfl,hb⟩
  have hz2:=hb.size
  have aC:=ah ((aj.new w 207 #[.int .i64 0, .string ⟨#[]⟩, .int .i64 0, .int .i64 0, .int .i64 0, .int .i64 0]).below hb (by simp))
  obtain ⟨g0,g1,g2,g3,g4,g5,f0,f1,f2,f3,f4,f5⟩:=jK aC.out
  have HB2:=ah (((Below.refl _ w).alloc (ab1 _) (.cells #[.int .i64 0, .string ⟨#[]⟩, .int .i64 0, .int .i64 0, .int .i64 0, .int .i64 0] 207)).trans (hb.mono (by simp)))
  clear hb;go_wp2;exact qC Tryz.results143 rfl aC.out HB2.out HV.out
 have hl: ∀W:World,Calls Tryz.prog 198 #[.int .u8 c.toNat] W fun e w'=>e= .returned (.bool false)/\W=w':=by
  have:=aB.out
  rwa [show Lex.isLet c=false from ak2 ha] at this
 have dQ:=ah hl;clear hl;by_cases hd:Num.aP c=true
 ·have hdc:=Gn.out
  rw [hd] at hdc;have HD1:=ah hdc;have hR1:=HR.out;rw [Lex.ahp r hd] at hR1
  have hw:=sH.out;rw [hR1] at hw;unfold vJ at hw;rw [HV.out] at hw;have HW:=ah hw
  clear hdc hR1 hw ha hd aB Gn Gp sH JD JC;go_wp2_with fail;refine (dQ.out _).mono ?_
  rintro e w' ⟨rfl,rfl⟩;go_wp2_with fail;refine (HD1.out _).mono ?_;rintro e w' ⟨rfl,rfl⟩
  go_wp2_with fail;refine (HW.out _ ((Below.refl _ w).alloc (ab1 _) _)).mono ?_
  rintro e w2 ⟨rfl,hb⟩;have hz2:=hb.size
  have aC:=ah ((aj.new w 207 #[.int .i64 0, .string ⟨#[]⟩, .int .i64 0, .int .i64 0, .int .i64 0, .int .i64 0]).below hb (by simp))
  obtain ⟨g0,g1,g2,g3,g4,g5,f0,f1,f2,f3,f4,f5⟩:=jK aC.out
  have HB2:=ah (((Below.refl _ w).alloc (ab1 _) (.cells #[.int .i64 0, .string ⟨#[]⟩, .int .i64 0, .int .i64 0, .int .i64 0, .int .i64 0] 207)).trans (hb.mono (by simp)))
  clear hb;go_wp2;exact qC Tryz.results143 rfl aC.out HB2.out HV.out
 have hdc: ∀W:World,Calls Tryz.prog 200 #[.int .u8 c.toNat] W fun e w'=>e= .returned (.bool false)/\W=w':=by
  have:=Gn.out
  rwa [show Num.aP c=false from ak2 hd] at this
 have HD1:=ah hdc;clear hdc;by_cases dB:c=39
 ·subst dB
  have hR1:=HR.out;rw [Lex.ahr r,aW.out,show s.size -(i+1)+1=s.size - i by omega] at hR1
  have hw:=JD.out;rw [hR1] at hw;unfold vJ at hw;rw [HV.out] at hw;have HW:=ah hw
  clear hR1 hw ha hd aB Gn Gp sH JD JC;go_wp2_with fail;refine (dQ.out _).mono ?_
  rintro e w' ⟨rfl,rfl⟩;go_wp2_with fail;refine (HD1.out _).mono ?_;rintro e w' ⟨rfl,rfl⟩
  go_wp2_with fail;refine (HW.out _).mono ?_;rintro e w2 ⟨rfl,hb⟩;have hz2:=hb.size
  have aC:=ah ((aj.new w 207 #[.int .i64 0, .string ⟨#[]⟩, .int .i64 0, .int .i64 0, .int .i64 0, .int .i64 0]).below hb (by simp))
  obtain ⟨g0,g1,g2,g3,g4,g5,f0,f1,f2,f3,f4,f5⟩:=jK aC.out
  have HB2:=ah (((Below.refl _ w).alloc (ab1 _) (.cells #[.int .i64 0, .string ⟨#[]⟩, .int .i64 0, .int .i64 0, .int .i64 0, .int .i64 0] 207)).trans (hb.mono (by simp)))
  clear hb;go_wp2;exact qC Tryz.results143 rfl aC.out HB2.out HV.out
 have t39:(((c.toNat:Nat):Int) == 39)=false:=bq (k:=39) rfl (ab3.2 dB);by_cases h45:c=45
 ·subst h45
  by_cases hbd:Num.aP bh=true
  ·have hdb:=Gp.out
   rw [hbd] at hdb;have HD2:=ah hdb;have hR1:=HR.out
   rw [Lex.ahq r (by rw [wB.out];exact hbd)] at hR1
   have hw:=sH.out;rw [hR1] at hw;unfold vJ at hw;rw [HV.out] at hw;have HW:=ah hw
   clear hdb hR1 hw ha hd hbd aB Gn Gp sH JD JC;go_wp2_with fail;refine (dQ.out _).mono ?_
   rintro e w' ⟨rfl,rfl⟩;go_wp2_with fail;refine (HD1.out _).mono ?_;rintro e w' ⟨rfl,rfl⟩
   go_wp2_with fail;refine (HD2.out _).mono ?_;rintro e w' ⟨rfl,rfl⟩;go_wp2_with fail
   refine (HW.out _ ((Below.refl _ w).alloc (ab1 _) _)).mono ?_;rintro e w2 ⟨rfl,hb⟩
   have hz2:=hb.size
   have aC:=ah ((aj.new w 207 #[.int .i64 0, .string ⟨#[]⟩, .int .i64 0, .int .i64 0, .int .i64 0, .int .i64 0]).below hb (by simp))
   obtain ⟨g0,g1,g2,g3,g4,g5,f0,f1,f2,f3,f4,f5⟩:=jK aC.out
   have HB2:=ah (((Below.refl _ w).alloc (ab1 _) (.cells #[.int .i64 0, .string ⟨#[]⟩, .int .i64 0, .int .i64 0, .int .i64 0, .int .i64 0] 207)).trans (hb.mono (by simp)))
   clear hb;go_wp2;exact qC Tryz.results143 rfl aC.out HB2.out HV.out
  have hdb: ∀W:World,Calls Tryz.prog 200 #[.int .u8 bh.toNat] W fun e w'=>e= .returned (.bool false)/\W=w':=by
   have:=Gp.out
   rwa [show Num.aP bh=false from ak2 hbd] at this
  have HD2:=ah hdb;clear hdb;by_cases Uk:bh=62
  ·subst Uk
   have h2:i+2<=s.size:=by
    have h1:=aW.out;cases r with
    | nil=>have:=wB.out;simp [Lex.behind] at this
    | cons a r=>rw [acd] at h1;omega
   have h2i:(i:Int)+2<=s.size:=by omega
   have h2j:(0:Int)<=(i:Int)+2:=by omega
   have hR1:=HR.out;rw [Lex.ahs r wB.out] at hR1
   have ht:jv R i= .agg #[.int .i64 5, .string ⟨#[45,62]⟩, .int .i64 0, .int .i64 i, .int .i64 ((i:Int)+2), .int .i64 0]:=by
    rw [<-hR1];rfl
   have HT:=ah ht
   have hzz:s.extract i (i+2)=⟨#[45,62]⟩:=by
    apply adW
    apply Array.ext'
    rw [Ii,HDR.out];cases r with
    | nil=>have:=wB.out;simp [Lex.behind] at this
    | cons a r=>
     have:a=62:=wB.out;rw [this];rfl
   clear hR1 ht ha hd hbd;go_wp2_with fail;refine (dQ.out _).mono ?_;rintro e w' ⟨rfl,rfl⟩
   go_wp2_with fail;refine (HD1.out _).mono ?_;rintro e w' ⟨rfl,rfl⟩;go_wp2_with fail
   refine (HD2.out _).mono ?_;rintro e w' ⟨rfl,rfl⟩;go_wp2
   exact ML Tryz.results143 rfl (aj.new _ _ _) ⟨by rw [HT.out],(Below.refl _ w).alloc (ab1 _) _⟩
  have t62:(((bh.toNat:Nat):Int) == 62)=false:=bq (k:=62) rfl (ab3.2 Uk);have hR1:=HR.out
  rw [Lex.aht r (by rw [wB.out];exact ak2 hbd) (by rw [wB.out];exact Uk)] at hR1
  have ht:jv R i= .agg #[.int .i64 5, .string ⟨#[45]⟩, .int .i64 0, .int .i64 i, .int .i64 ((i:Int)+1), .int .i64 0]:=by
   rw [<-hR1];rfl
  have HT:=ah ht;have hcon:=Ui.out
  rw [show decide ((45:UInt8)∈Lex.MARKS)=true by decide,show wrap32 (((45:UInt8).toNat:Nat):Int)=45 by decide+kernel] at hcon
  have HC:=ah hcon;have Uj:(i:Int)+1<=s.size:=by omega
  have hzz:s.extract i (i+1)=⟨#[45]⟩:=by
   apply adW
   apply Array.ext'
   rw [Ii,HDR.out];rfl
  clear hR1 ht ha hd hbd hcon;go_wp2_with fail;refine (dQ.out _).mono ?_
  rintro e w' ⟨rfl,rfl⟩;go_wp2_with fail;refine (HD1.out _).mono ?_;rintro e w' ⟨rfl,rfl⟩
  go_wp2_with fail;refine (HD2.out _).mono ?_;rintro e w' ⟨rfl,rfl⟩;go_wp2_with fail
  refine (HC.out _ ((Below.refl _ w).alloc (ab1 _) _)).mono ?_;rintro e w' ⟨rfl,rfl⟩
  go_wp2
  exact ML Tryz.results143 rfl (aj.new _ _ _) ⟨by rw [HT.out],(Below.refl _ w).alloc (ab1 _) _⟩
 have t45:(((c.toNat:Nat):Int) == 45)=false:=bq (k:=45) rfl (ab3.2 h45)
 by_cases hm:c∈Lex.MARKS
 ·have hR1:=HR.out
  rw [Lex.ZJ r (ak2 ha) (ak2 hd) dB h45,ab7 hm] at hR1;have hcon:=Ui.out
  rw [abW hm] at hcon;have HC:=ah hcon
  have ht:jv R i= .agg #[.int .i64 5, .string ⟨#[c]⟩, .int .i64 0, .int .i64 i, .int .i64 ((i:Int)+1), .int .i64 0]:=by
   rw [<-hR1];rfl
  have HT:=ah ht;have Uj:(i:Int)+1<=s.size:=by omega
  have hzz:s.extract i (i+1)=⟨#[c]⟩:=by
   apply adW
   apply Array.ext'
   rw [Ii,HDR.out];rfl
  clear hR1 ht ha hd hm hcon dB h45;go_wp2_with fail;refine (dQ.out _).mono ?_
  rintro e w' ⟨rfl,rfl⟩;go_wp2_with fail;refine (HD1.out _).mono ?_;rintro e w' ⟨rfl,rfl⟩
  go_wp2_with fail;refine (HC.out _ ((Below.refl _ w).alloc (ab1 _) _)).mono ?_
  rintro e w' ⟨rfl,rfl⟩;go_wp2
  exact ML Tryz.results143 rfl (aj.new _ _ _) ⟨by rw [HT.out],(Below.refl _ w).alloc (ab1 _) _⟩
 have hR1:=HR.out;rw [Lex.ZJ r (ak2 ha) (ak2 hd) dB h45,ab6 hm] at hR1;have hcon:=Ui.out
 rw [abX hm] at hcon;have HC:=ah hcon
 have ht:jv R i= .agg #[.int .i64 0, .string ⟨#[]⟩, .int .i64 0, .int .i64 i, .int .i64 0, .int .i64 240]:=by
  rw [<-hR1,Nh,akz];rfl
 have HT:=ah ht;clear hR1 ht ha hd hm hcon dB h45;go_wp2_with fail
 refine (dQ.out _).mono ?_;rintro e w' ⟨rfl,rfl⟩;go_wp2_with fail
 refine (HD1.out _).mono ?_;rintro e w' ⟨rfl,rfl⟩;go_wp2_with fail
 refine (HC.out _ ((Below.refl _ w).alloc (ab1 _) _)).mono ?_;rintro e w' ⟨rfl,rfl⟩
 go_wp2_with fail;refine (Fp (i:Int) 240 _).mono ?_;rintro e w2 ⟨rfl,hb⟩;have hz2:=hb.size
 have aC:=ah ((aj.new w 207 #[.int .i64 0, .string ⟨#[]⟩, .int .i64 0, .int .i64 0, .int .i64 0, .int .i64 0]).below hb (by simp))
 obtain ⟨g0,g1,g2,g3,g4,g5,f0,f1,f2,f3,f4,f5⟩:=jK aC.out
 have HB2:=ah (((Below.refl _ w).alloc (ab1 _) (.cells #[.int .i64 0, .string ⟨#[]⟩, .int .i64 0, .int .i64 0, .int .i64 0, .int .i64 0] 207)).trans (hb.mono (by simp)))
 clear hb;go_wp2;exact qC Tryz.results143 rfl aC.out HB2.out HT.out
end Go.Proofs.YtoofbflplhbpbaaGreatDoor
namespace Go.Proofs.YtoofbflplhbpbaaGreatDoor
open Go.RowKit
structure bF (T:TypeId) (n₁:Nat) (A B:World):Prop where
 os:B.os=A.os
 tape:B.tape=A.tape
 output:B.output=A.output
 size:A.heap.size<=B.heap.size
 low: ∀k,k<n₁->k<A.heap.size->B.heap[k]?=A.heap[k]?
 block: ∀(k:Nat) (o:Obj),A.heap[k]?=some o->(∀r,o≠ .loop r)->(∀c fz,o≠ .cells c T fz)->B.heap[k]?=some o
section
variable {T n₁:Nat} {A B C:World}
theorem bF.refl (T n₁:Nat) (A:World):bF T n₁ A A:=⟨rfl,rfl,rfl,ab1 _,fun _ _ _=>rfl,fun _ _ h _ _=>h⟩
theorem bF.trans (h:bF T n₁ A B) (k:bF T n₁ B C):bF T n₁ A C:=
 ⟨k.os.trans h.os,k.tape.trans h.tape,k.output.trans h.output,ab5 h.size k.size,fun i hi hA=>(k.low i hi (adf hA h.size)).trans (h.low i hi hA),fun i o ho h1 h2=>k.block i o (h.block i o ho h1 h2) h1 h2⟩
theorem bF.of_below (h:Below A.heap.size A B):bF T n₁ A B:=
 ⟨h.os,h.tape,h.output,h.size,fun k _ hk=>h.block k hk,fun k o ho _ _=>(h.block k (acI.1 ho).1).trans ho⟩
theorem bF.alloc (h:bF T n₁ A B) (o:Obj):bF T n₁ A (B.alloc o):=h.trans (.of_below ((Below.refl _ B).alloc (ab1 _) o))
theorem bF.drewN (h:bF T n₁ A B) (n:Nat):bF T n₁ A (B.drewN n):=⟨h.os,h.tape,h.output,h.size,h.low,h.block⟩
theorem bF.vN {g:Nat} {c:Array Value} {fz:Nat×Nat} (h:A.grownBy B (some g)) (hg:A.heap[g]?=some (.cells c T fz)) (hn:n₁<=g):bF T n₁ A B:=
 ⟨h.os,h.tape,h.output,h.size,fun k hk hA=>h.block k hA (by simp;omega),fun k o ho _ h2=>(h.block k (acI.1 ho).1 (fun e=>by cases e;rw [hg] at ho;exact h2 c fz (acE ho).symm)).trans ho⟩
theorem bF.putObj {l:Nat} {r:Loop} (r':Loop) (h:A.heap[l]?=some (.loop r)) (hn:n₁<=l):bF T n₁ A (A.putObj l (.loop r')):=
 ⟨rfl,rfl,rfl,by simp [World.putObj],fun k hk _=>World.putObj_heap_other (by omega),fun k o ho h1 _=>by
  rw [World.putObj_heap_other (fun e=>by subst e;rw [h] at ho;exact h1 r (acE ho).symm)]
  exact ho⟩
theorem bF.cell (h:bF T n₁ A B) {b:Nat} {c:Array Value} {t:TypeId} {fz:Nat×Nat} (hb:A.heap[b]?=some (.cells c t fz)) (ht:t≠T):B.heap[b]?=some (.cells c t fz):=
 h.block b _ hb (fun r e=>by cases e) (fun c' fz' e=>by cases e;exact ht rfl)
theorem bF.below {m:Nat} (h:bF T n₁ A B) (hm:m<=n₁) (hA:m<=A.heap.size):Below m A B:=⟨h.os,h.tape,h.output,h.size,fun k hk=>h.low k (by omega) (by omega)⟩
theorem bF.own (h:bF T n₁ A B) {base size n:Nat} {e:TypeId} {v:Value} {xs:List Value} (ho:A.ownsRow base e size v n xs) (ht:e≠T):B.ownsRow base e size v n xs:=by
 refine ⟨ho.1, ?_⟩
 rcases ho.2 with hn |⟨g,cap,cur,rfl,hb,hg,rest⟩
 ·exact .inl hn
 exact .inr ⟨g,cap,cur,rfl,hb,h.cell hg ht,rest⟩
theorem bF.blk (h:bF T n₁ A B) {b:Nat} {c:Array Value} {t:TypeId} (hb:aj A b t c) (ht:t≠T):aj B b t c:=h.cell hb ht
end
structure jO (T:TypeId) (A B:World):Prop where
 size:A.heap.size<=B.heap.size
 same: ∀(k:Nat) (c:Array Value) (fz:Nat×Nat),A.heap[k]?=some (Obj.cells c T fz)->B.heap[k]?=some (Obj.cells c T fz)
theorem jO.refl (T:TypeId) (A:World):jO T A A:=⟨ab1 _,fun _ _ _ h=>h⟩
theorem jO.trans {T:TypeId} {A B C:World} (h:jO T A B) (k:jO T B C):jO T A C:=⟨ab5 h.size k.size,fun i c fz hi=>k.same i c fz (h.same i c fz hi)⟩
theorem jO.vN {T:TypeId} {A B:World} {row:Option Nat} (h:A.grownBy B row) (hr: ∀g c fz,row=some g->A.heap[g]?≠some (.cells c T fz)):jO T A B:=
 ⟨h.size,fun k c fz hk=>(h.block k (acI.1 hk).1 (fun e=>hr k c fz e.symm hk)).trans hk⟩
theorem jO.blk {T:TypeId} {A B:World} (h:jO T A B) {b:Nat} {c:Array Value} (hb:aj A b T c):aj B b T c:=h.same b c _ hb
def Rw {α:Type} (P:Program) (T n₁ gf:Nat) (lb:Array Value) (encs:α->Array Value) (Pre:α->World->World->Prop) (Step:List α->α->Prop) (End:List α->Prop) (Oc:World->Prop) (W1:World):Prop:=
 ∀(l:Nat) (J:List α->World->Prop) (Fin:World->Prop),(∀pre W,J pre W->Oc W)->
  (∀pre A B,J pre A->bF T W1.heap.size A B->J pre B)->
  (∀pre x W0 W,J pre W0->bF T W1.heap.size W0 W->Pre x W0 W->Step pre x->YieldAt Fence.wide 7 P l (encs x) W fun e W'=>
   (e= .returned (.bool true)/\J (pre ++ [x]) W'/\jO T W W')\/(e= .returned (.bool false)/\Fin W'))->
  (∀pre W,J pre W->End pre->Fin W)->
  J [] W1->
  CallsIn Fence.wide 8 P gf (#[.func (.yield l) #[] #[]] ++ lb) W1 fun e W'=>(∃v,e= .returned v)/\Fin W'
def ahu {α:Type} (B:Nat) (T:TypeId) (I:List α->World->Prop) (Ix:Code->World->Prop) (xs:List α) (W:World):Exit->Act->World->Prop
 | .normal,_,W'=>KeepsFrom B W W'/\jO T W W'/\I xs W'
 | .ret,_,W'=>KeepsFrom B W W'/\Ix .ret W'
 | .exit id,_,W'=>KeepsFrom B W W'/\Ix (.exit id) W'
 | .goto t,_,W'=>KeepsFrom B W W'/\Ix (.goto t) W'
 | .panic _,_,_=>False
 | .outgrown,_,_=>False
theorem Rx {P:Program} {f:FuncId} {fn:Func} {c:Code} {args:Array Value} {w:World} {R:Ending->World->Prop} (hf:P.funcs[f]?=some fn) (hb:fn.body=some c)
  (h:c.wp P (bodyPostM Fence.wide 9 P fn R) {tmps:=args ++ Array.replicate (fn.ntmps - args.size) undef,defers:= []} w):Calls P f args w R:=
 callsIn_wide.1 (callsIn_of_wp_marks (n:=9) hf hb trivial (wpIn_wide.2 h))
theorem Dw {V:World} {D b:Nat} {t:TypeId} {c:Array Value} {o:Obj} (hK:V.heap[D]?=some (.deferred (some []))) (h:aj V b t c):aj (V.putObj D o) b t c:=
 (World.putObj_heap_other (fun e=>by subst e;unfold aj at h;rw [hK] at h;cases h)).trans h
theorem ahv {V:World} {D:Nat} (hK:V.heap[D]?=some (.deferred (some []))): ∀(k:Nat) (c:Array Value) (t:TypeId) (fz:Nat×Nat),V.heap[k]?=some (Obj.cells c t fz)->(V.putObj D (.deferred none)).heap[k]?=some (Obj.cells c t fz):=fun k c t fz h=>
 (World.putObj_heap_other (fun e=>by subst e;rw [hK] at h;cases h)).trans h
theorem ZK {V:World} {D base e size n:Nat} {v:Value} {xs:List Value} (hK:V.heap[D]?=some (.deferred (some []))) (h:V.ownsRow base e size v n xs):(V.putObj D (.deferred none)).ownsRow base e size v n xs:=by
 refine ⟨h.1, ?_⟩
 rcases h.2 with hn |⟨g,cap,cur,rfl,hb,hg,rest⟩
 ·exact .inl hn
 exact .inr ⟨g,cap,cur,rfl,hb,ahv hK _ _ _ _ hg,rest⟩
theorem Nj {B:Nat} {A V:World} {D:Nat} {o:Obj} (h:Below B A V) (hD:B<=D):Below B A (V.putObj D o):=
 ⟨h.os,h.tape,h.output,by simpa [World.putObj] using h.size,fun k hk=>(World.putObj_heap_other (by omega)).trans (h.block k hk)⟩
theorem Nk {P:Program} {fn:Func} {tmps:Array Value} {R:Ending->World->Prop} {V:World} {D:Nat} {v:Value} (hK:V.heap[D]?=some (.deferred (some [])))
  (hr:(results fn tmps).run P (V.putObj D (.deferred none))= .ok v (V.putObj D (.deferred none))) (hR:R (.returned v) (V.putObj D (.deferred none))):
  bodyPostM Fence.wide 9 P fn R .ret {tmps:=tmps,defers:= [{target:= .collected D,args:= #[]}]} V:=
 ⟨by simp, .inl ⟨_,_,rfl,run_takeDeferred hK,⟨_,hr,hR⟩⟩⟩
end Go.Proofs.YtoofbflplhbpbaaGreatDoor
namespace Go.Proofs.YtoofbflplhbpbaaGreatDoor
open Go.RowKit
attribute [local go_sem] Oper.semAt_some
def tokA (t:Lex.Tok):Value:= .agg #[.int .i64 (t.kind:Int), .string ⟨t.text.toArray⟩, .int .i64 t.num, .int .i64 (t.pos:Int)]
abbrev LY:=Lex.Tok×Nat
def Ry (x:LY):Array Value:= #[tokA x.1, .int .i64 (x.2:Int)]
namespace Lex
def items (x:List Tok×Option (Nat×Nat)):List LY:=
 x.1.map (fun t=>(t,0)) ++ match x.2 with
  | none=> []
  | some (p,e)=> [(⟨0, [],0,p⟩,e)]
theorem ahw:items ([],none)= []:=rfl
theorem ahx (t:Tok) (x:List Tok×Option (Nat×Nat)):items (t :: x.1,x.2)=(t,0) :: items x:=rfl
end Lex
def Nl (l:List UInt8) (pre:List LY) (x:LY):Prop:=pre ++ [x] <+: Lex.items (Lex.read l)
def Rz (l:List UInt8) (pre:List LY):Prop:=pre=Lex.items (Lex.read l)
theorem ahy (s:ByteArray) (hs:s.size<=1073741823) (n₁ Bt:Nat) (hBt:Bt<n₁) (W1:World) (hn:n₁<=W1.heap.size):
  Rw Tryz.prog 207 n₁ 141 #[.pointer (some ⟨Bt,0,none⟩)] Ry (fun _ _ _=>True) (Nl s.data.toList) (Rz s.data.toList) (fun W=>W.cell? ⟨Bt,0,none⟩=some (.string s)/\Laid W) W1:=by
 intro l J Fin hAux hJ hY JE h0;refine callsIn_wide.2 ?_;have HX:=ah hAux;have HJ:=ah hJ
 have HY:=ah hY;have HE:=ah JE;have hc:=(hAux _ _ h0).1;have Oe:=ah h0
 clear hJ hY JE hAux h0;by_cases hbig:16777216<s.size
 ·have hd:decide (16777216<s.size)=true:=abW hbig
  have hd':decide ((16777216:Int)<s.size)=true:=abW (by omega)
  have hit:Lex.items (Lex.read s.data.toList)= [(⟨0, [],0,0⟩,1)]:=by
   unfold Lex.read;rw [ab7 (by rw [<-Lib.size_eq];exact hbig)]
   rfl
  obtain ⟨fn,tmps,assign,body,hy,hR⟩:=HY.out [] (⟨0, [],0,0⟩,1) W1 W1 Oe.out (bF.refl _ _ _) trivial (by unfold Nl;rw [hit];exact List.prefix_refl _)
  have hy':(Instr.yield l #[.agg #[.int .i64 0, .string ⟨#[]⟩, .int .i64 0, .int .i64 0], .int .i64 1]).run Tryz.prog W1= .ok (.round l fn tmps assign body) W1:=hy
  have lU:=ah hR;have HIT:=ah hit;clear hit hR hy;go_enter Tryz.func141,Tryz.ntmps141
  go_upto_region 1 with (fail)
  refine (wpIn_wide (n:=8)).1 ?_
  gi_wp2
  refine lU.out.mono ?_;rintro e W' (⟨rfl,hj,hk⟩ |⟨rfl,hf⟩)
  ·gi_wp2
   go_wp2;refine bodyPost_ret (results_none rfl _ _ _) rfl ?_
   exact ⟨⟨_,rfl⟩,HE.out _ _ hj HIT.out.symm⟩
  gi_wp2
  go_wp2;refine bodyPost_ret (results_none rfl _ _ _) rfl ?_;exact ⟨⟨_,rfl⟩,hf⟩
 have hd:decide (16777216<s.size)=false:=abX hbig
 have hd':decide ((16777216:Int)<s.size)=false:=abX (by omega)
 have hsm:s.size<=16777216:=by omega
 have hrd:Lex.read s.data.toList=Lex.scan (s.size+1) (s.data.toList.drop (Lex.gap false s.data.toList)) (Lex.gap false s.data.toList):=by
  unfold Lex.read;rw [ab6 (by rw [<-Lib.size_eq];exact hbig)]
  unfold Lex.body;rw [<-Lib.size_eq,akA]
 have hsk:=fun (i:Nat) (hi:i<=s.size) (W:World)=>af6 s i W (by omega) hi
 have hgl:=Lex.Ia false s.data.toList;rw [<-Lib.size_eq] at hgl;have hs0:=hsk 0 (by omega)
 rw [aeC,akA] at hs0;obtain ⟨a0,ha0⟩: ∃a,Lex.gap false s.data.toList=a:=⟨_,rfl⟩
 rw [ha0] at hs0 hgl hrd
 have gq:=ah (show∀W:World,Calls Tryz.prog 142 #[.string s, .int .i64 0] W fun e w'=>e= .returned (.int .i64 (a0:Int))/\W=w' from hs0)
 have HSK:=ah hsk;have akG:=ah hrd;clear hsk hs0 hrd ha0 hbig
 go_enter Tryz.func141,Tryz.ntmps141;go_wp2_with fail;refine (gq.out _).mono ?_
 rintro e w' ⟨rfl,rfl⟩;go_wp2_with fail
 go_loopg [3] s.size (fun g x wr=> ∃(k:Nat) (pre:List LY),x= .int .i64 k/\k<=s.size/\s.size - k<=g/\J pre wr/\Lex.items (Lex.read s.data.toList)=pre ++ Lex.items (Lex.scan (g+1) (s.data.toList.drop k) k)/\W1.heap.size<=wr.heap.size)
 case atStart=>exact ⟨a0, [],rfl,hgl,by omega,Oe.out,by rw [akG.out];rfl,ab1 _⟩
 obtain ⟨k,pre,rfl,hle,hgk,hj,hit,hsz⟩:=hrel;obtain ⟨hcb,hlaid⟩:=HX.out _ _ hj
 have x9:=ah hj;have HI:=ah hit;have HL:=ah hlaid;have hki:(k:Int)<=16777216:=by omega
 clear hj hit hlaid hc;by_cases hlt:k<s.size
 ·have zK:(k:Int)<s.size:=by omega
  have t1:decide (k<s.size)=true:=abW hlt;have hnx:=next_any s k wr hs hlt HL.out
  have hne:s.data.toList.drop k≠ []:=by
   rw [vI hlt];simp
  obtain ⟨R,hR⟩: ∃R,Lex.tok1 (s.data.toList.drop k)=R:=⟨_,rfl⟩;rw [hR] at hnx
  obtain ⟨g,rfl⟩: ∃g,gk=g+1:=⟨gk - 1,by omega⟩
  have hu:=lD;cases R with
  | tok kd tx nm n=>
   have hbd:=Lex.Ib hR;rw [acM,<-Lib.size_eq] at hbd
   have hsc:=Lex.yY (k:=g+1) (i:=k) hR rfl;obtain ⟨m,hm⟩: ∃m,k+n=m:=⟨_,rfl⟩
   obtain ⟨K',hK'⟩: ∃K',m+Lex.gap false (s.data.toList.drop m)=K':=⟨_,rfl⟩
   have Ul:m<=s.size:=by omega
   have hKm:m<=K':=by omega
   have akH:K'<=s.size:=by
    have:=Lex.Ia false (s.data.toList.drop m);rw [acM,<-Lib.size_eq] at this;omega
   have hit2:Lex.items (Lex.read s.data.toList)=(pre ++ [(⟨kd,tx,nm,k⟩,0)]) ++ Lex.items (Lex.scan (g+1) (s.data.toList.drop K') K'):=by
    rw [HI.out,hsc,Lex.ahx,alW,alW,hm,show k+(n+Lex.gap false (s.data.toList.drop m))=K' by omega,hK',acF]
    rfl
   have Um:=HSK.out m Ul;rw [hK'] at Um
   have JF:Calls Tryz.prog 143 #[.string s, .int .i64 k] wr fun e w'=>e= .returned (.agg #[.int .i64 (kd:Int), .string ⟨tx.toArray⟩, .int .i64 nm, .int .i64 (k:Int), .int .i64 (m:Int), .int .i64 0])/\Below wr.heap.size wr w':=by
    rw [<-hm];exact hnx
   have iC:=ah JF;have HI2:=ah hit2;have iJ:=ah Um;have hm1:k<m:=by omega
   clear hnx JF hR hbd hsc hm hK' hit2 Um hne;go_wp2_with fail;refine iC.out.mono ?_
   rintro e w2 ⟨rfl,hb⟩;have Un:=Ie hcb
   have hcb2:w2.cell? ⟨Bt,0,none⟩=some (.string s):=(hb.cell Un).trans hcb
   have hz2:=hb.size
   have hsame:=ah ((bF.of_below (T:=207) (n₁:=W1.heap.size) hb).alloc (.cells #[.int .i64 kd, .string ⟨tx.toArray⟩, .int .i64 nm, .int .i64 k, .int .i64 m, .int .i64 0] 207))
   have hblk:=ah (aj.new w2 207 #[.int .i64 kd, .string ⟨tx.toArray⟩, .int .i64 nm, .int .i64 k, .int .i64 m, .int .i64 0])
   obtain ⟨fn,tmps,assign,body,hy,hR⟩:=HY.out pre (⟨kd,tx,nm,k⟩,0) wr (w2.alloc (.cells #[.int .i64 kd, .string ⟨tx.toArray⟩, .int .i64 nm, .int .i64 k, .int .i64 m, .int .i64 0] 207)) x9.out hsame.out trivial (by unfold Nl;rw [HI2.out];exact List.prefix_append _ _)
   have hy':(Instr.yield l #[.agg #[.int .i64 kd, .string ⟨tx.toArray⟩, .int .i64 nm, .int .i64 k], .int .i64 0]).run Tryz.prog (w2.alloc (.cells #[.int .i64 kd, .string ⟨tx.toArray⟩, .int .i64 nm, .int .i64 k, .int .i64 m, .int .i64 0] 207))= .ok (.round l fn tmps assign body) (w2.alloc (.cells #[.int .i64 kd, .string ⟨tx.toArray⟩, .int .i64 nm, .int .i64 k, .int .i64 m, .int .i64 0] 207)):=hy
   have lU:=ah hR;clear hy hR hb
   go_upto_region 5 with (fail)
   refine (wpIn_wide (n:=8)).1 ?_
   gi_wp2
   refine lU.out.mono ?_;rintro e W' (⟨rfl,hj,hk⟩ |⟨rfl,hf⟩)
   ·have hbk:=hk.blk hblk.out
    obtain ⟨g0,g1,g2,g3,g4,g5,f0,f1,f2,f3,f4,f5⟩:=jK hbk;have hcw:=(HX.out _ _ hj).1
    have DY:=ah hj;have hzw:=hk.size;rw [World.size_alloc] at hzw;clear hk hbk hj
    gi_wp2
    go_wp2_with fail;refine (iJ.out _).mono ?_;rintro e w3 ⟨rfl,rfl⟩;go_wp2
    go_roundg g
    case measure=>omega
    exact ⟨K',_,rfl,akH,by omega,DY.out,HI2.out,by omega⟩
   gi_wp2
   go_wp2;refine bodyPost_ret (results_none rfl _ _ _) rfl ?_;exact ⟨⟨_,rfl⟩,hf⟩
  | err o e=>
   obtain ⟨he,ho⟩:=Lex.Qj hne hR;have hsc:=Lex.AX (k:=g+1) (i:=k) hne hR
   obtain ⟨m,hm⟩: ∃m,k+o=m:=⟨_,rfl⟩
   have hit2:Lex.items (Lex.read s.data.toList)=pre ++ [(⟨0, [],0,m⟩,e)]:=by
    rw [HI.out,hsc,hm];rfl
   have JF:Calls Tryz.prog 143 #[.string s, .int .i64 k] wr fun e' w'=>e'= .returned (.agg #[.int .i64 0, .string ⟨#[]⟩, .int .i64 0, .int .i64 (m:Int), .int .i64 0, .int .i64 (e:Int)])/\Below wr.heap.size wr w':=by
    rw [<-hm];exact hnx
   have iC:=ah JF;have HI2:=ah hit2;have hen:((e:Int) !=0)=true:=by rw [acV];omega
   clear hnx JF hR hsc hm hit2 hne ho;go_wp2_with fail;refine iC.out.mono ?_
   rintro e' w2 ⟨rfl,hb⟩;have Un:=Ie hcb
   have hcb2:w2.cell? ⟨Bt,0,none⟩=some (.string s):=(hb.cell Un).trans hcb
   have hz2:=hb.size
   have hsame:=ah ((bF.of_below (T:=207) (n₁:=W1.heap.size) hb).alloc (.cells #[.int .i64 0, .string ⟨#[]⟩, .int .i64 0, .int .i64 m, .int .i64 0, .int .i64 e] 207))
   have hblk:=ah (aj.new w2 207 #[.int .i64 0, .string ⟨#[]⟩, .int .i64 0, .int .i64 m, .int .i64 0, .int .i64 e])
   obtain ⟨fn,tmps,assign,body,hy,hR⟩:=HY.out pre (⟨0, [],0,m⟩,e) wr (w2.alloc (.cells #[.int .i64 0, .string ⟨#[]⟩, .int .i64 0, .int .i64 m, .int .i64 0, .int .i64 e] 207)) x9.out hsame.out trivial (by unfold Nl;rw [HI2.out];exact List.prefix_refl _)
   have hy':(Instr.yield l #[.agg #[.int .i64 0, .string ⟨#[]⟩, .int .i64 0, .int .i64 m], .int .i64 e]).run Tryz.prog (w2.alloc (.cells #[.int .i64 0, .string ⟨#[]⟩, .int .i64 0, .int .i64 m, .int .i64 0, .int .i64 e] 207))= .ok (.round l fn tmps assign body) (w2.alloc (.cells #[.int .i64 0, .string ⟨#[]⟩, .int .i64 0, .int .i64 m, .int .i64 0, .int .i64 e] 207)):=hy
   have lU:=ah hR;clear hy hR hb
   go_upto_region 5 with (fail)
   refine (wpIn_wide (n:=8)).1 ?_
   gi_wp2
   refine lU.out.mono ?_;rintro e' W' (⟨rfl,hj,hk⟩ |⟨rfl,hf⟩)
   ·have hbk:=hk.blk hblk.out
    obtain ⟨g0,g1,g2,g3,g4,g5,f0,f1,f2,f3,f4,f5⟩:=jK hbk;have DY:=ah hj;clear hk hbk hj
    gi_wp2
    go_wp2;refine bodyPost_ret (results_none rfl _ _ _) rfl ?_
    exact ⟨⟨_,rfl⟩,HE.out _ _ DY.out HI2.out.symm⟩
   gi_wp2
   go_wp2;refine bodyPost_ret (results_none rfl _ _ _) rfl ?_;exact ⟨⟨_,rfl⟩,hf⟩
 have t1:decide (k<s.size)=false:=abX hlt
 have hend:Rz s.data.toList pre:=by
  unfold Rz;rw [HI.out,Dq (by omega),Lex.LZ,Lex.ahw,acK]
 have akI:=ah hend;clear hend;go_wp2
 go_end0
 exact ⟨⟨_,rfl⟩,HE.out _ _ x9.out akI.out⟩
end Go.Proofs.YtoofbflplhbpbaaGreatDoor
