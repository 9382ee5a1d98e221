/- Contracts and plain laws,part 17. -/
import Derived.Test.YtoofbflplhbpbaaGreatDoorBK11
import Derived.Test.YtoofbflplhbpbaaGreatDoorBK14
import Derived.RangeFuncNested
import Derived.RangeFuncBound
import Derived.RangeFuncCalls
import Derived.RangeFuncLeaves
import Derived.Shelf.Abstract
import Derived.Shelf.RegionOpen
import Derived.OwnWalkIn
import Derived.TacticsInMore
import Derived.LoopNIn
import Derived.LoopIn
set_option maxHeartbeats 64000000
set_option maxRecDepth 1000000
set_option linter.all false
namespace Go.Proofs.YtoofbflplhbpbaaGreatDoor
open Go.RowKit
def Lst {α:Type} (W:World) (B size:Nat) (R:α→List Value→Prop) (A:Option Addr) (l:List α):Prop:=
 ∀(i:Nat) (a:α),l[i]?=some a→ ∃b off cs,A=some ⟨b,off,none⟩∧b<B∧R a cs∧cs.length=size∧ ∀(j:Nat) u,cs[j]?=some u→W.cell? ⟨b,off+i*size+j,none⟩=some u
theorem Lst.below {α:Type} {W W':World} {B size:Nat} {R R':α→List Value→Prop} {A:Option Addr} {l:List α} (h:Lst W B size R A l) (hb:Below B W W') (hR: ∀a cs,R a cs→R' a cs):Lst W' B size R' A l:=fun i a ha=>by
 obtain ⟨b,off,cs,e,hlt,hr,hl,hc⟩:=h i a ha
 exact ⟨b,off,cs,e,hlt,hR _ _ hr,hl,fun j u hu=>(hb.cell (by exact hlt)).trans (hc j u hu)⟩
theorem Lst.more {α:Type} {W:World} {B B' size:Nat} {R R':α→List Value→Prop} {A:Option Addr} {l:List α} (h:Lst W B size R A l) (hb:B≤B') (hR: ∀a cs,R a cs→R' a cs):Lst W B' size R' A l:=fun i a ha=>by
 obtain ⟨b,off,cs,e,hlt,hr,hl,hc⟩:=h i a ha
 exact ⟨b,off,cs,e,by omega,hR _ _ hr,hl,hc⟩
theorem Lst.nil {α:Type} {W:World} {B size:Nat} {R:α→List Value→Prop} {A:Option Addr}:Lst W B size R A []:=fun i a ha=>by simp at ha
theorem Lst.dL {α:Type} {W:World} {base e size c:Nat} {R:α→List Value→Prop} {A:Option Addr} {l:List α} {f:α→List Value} (h:W.ownsRow base e size (.slice A l.length c) l.length (l.flatMap f)) (hf: ∀a∈l,(f a).length=size) (hR: ∀a∈l,R a (f a)):Lst W W.heap.size size R A l:=fun i a ha=>by
 obtain ⟨hi,hia⟩:=List.getElem?_eq_some_iff.1 ha
 obtain ⟨b,off,e,hb,hc⟩:=(Reads.dL h).2 (by omega)
 have hm:a∈l:=List.mem_of_getElem? ha
 refine ⟨b,off,f a,e,hb,hR a hm,hf a hm,fun j u hu=> ?_⟩
 have hj:j<size:=by have:=(List.getElem?_eq_some_iff.1 hu).1;rw [hf a hm] at this;exact this
 have key: ∀(l:List α) (i:Nat) (a:α),(∀a∈l,(f a).length=size)→l[i]?=some a→(f a)[j]?=some u→(l.flatMap f)[i*size+j]?=some u:=by
  intro l
  induction l with
  | nil=>intro i a _ h;simp at h
  | cons x r ih=>
   intro i a hf h hu
   rw [List.flatMap_cons]
   have hx:(f x).length=size:=hf x (by simp)
   cases i with
   | zero=>
    simp only [List.getElem?_cons_zero,Option.some.injEq] at h
    subst h
    rw [Nat.zero_mul,Nat.zero_add,List.getElem?_append_left (by omega)]
    exact hu
   | succ i=>
    rw [List.getElem?_append_right (by rw [hx,Nat.succ_mul];omega)]
    have:=ih i a (fun a ha=>hf a (by simp [ha])) (by simpa using h) hu
    rw [hx,show (i+1)*size+j - size=i*size+j by rw [Nat.succ_mul];omega]
    exact this
 have:=hc _ u (key l i a hf ha hu)
 rwa [←Nat.add_assoc] at this
def aB (W:World) (B:Nat) (p:Gr.P) (cs:List Value):Prop:=
 ∃An cn At ct,cs= [ST p.key, .int .i64 p.val.kind, .int .i64 p.val.num,ST p.val.text, .slice An p.val.nums.length cn, .slice At p.val.texts.length ct]∧Reads W B 1 An p.val.nums.length (p.val.nums.map I64)∧Reads W B 1 At p.val.texts.length (p.val.texts.map ST)
def bU (W:World) (B:Nat) (n:Gr.N) (cs:List Value):Prop:=
 ∃Al cl Ap cp,cs= [.int .i64 n.id, .slice Al n.labels.length cl, .slice Ap n.props.length cp]∧Reads W B 1 Al n.labels.length (n.labels.map ST)∧Lst W B 6 (aB W B) Ap n.props
def bV (W:World) (B:Nat) (r:Gr.R) (cs:List Value):Prop:=
 ∃Ap cp,cs= [.int .i64 r.id,ST r.type, .int .i64 r.src, .int .i64 r.dst, .slice Ap r.props.length cp]∧Lst W B 6 (aB W B) Ap r.props
theorem aB.below {W W':World} {B:Nat} (hb:Below B W W') (p:Gr.P) (cs:List Value) (h:aB W B p cs):aB W' B p cs:=by
 obtain ⟨An,cn,At,ct,e,h1,h2⟩:=h
 exact ⟨An,cn,At,ct,e,h1.below hb,h2.below hb⟩
theorem bU.below {W W':World} {B:Nat} (hb:Below B W W') (n:Gr.N) (cs:List Value) (h:bU W B n cs):bU W' B n cs:=by
 obtain ⟨Al,cl,Ap,cp,e,h1,h2⟩:=h
 exact ⟨Al,cl,Ap,cp,e,h1.below hb,h2.below hb (aB.below hb)⟩
theorem bV.below {W W':World} {B:Nat} (hb:Below B W W') (r:Gr.R) (cs:List Value) (h:bV W B r cs):bV W' B r cs:=by
 obtain ⟨Ap,cp,e,h2⟩:=h
 exact ⟨Ap,cp,e,h2.below hb (aB.below hb)⟩
theorem aB.more {W:World} {B B':Nat} (hb:B≤B') (p:Gr.P) (cs:List Value) (h:aB W B p cs):aB W B' p cs:=by
 obtain ⟨An,cn,At,ct,e,h1,h2⟩:=h
 exact ⟨An,cn,At,ct,e,h1.more hb,h2.more hb⟩
theorem bU.more {W:World} {B B':Nat} (hb:B≤B') (n:Gr.N) (cs:List Value) (h:bU W B n cs):bU W B' n cs:=by
 obtain ⟨Al,cl,Ap,cp,e,h1,h2⟩:=h
 exact ⟨Al,cl,Ap,cp,e,h1.more hb,h2.more hb (aB.more hb)⟩
theorem bV.more {W:World} {B B':Nat} (hb:B≤B') (r:Gr.R) (cs:List Value) (h:bV W B r cs):bV W B' r cs:=by
 obtain ⟨Ap,cp,e,h2⟩:=h
 exact ⟨Ap,cp,e,h2.more hb (aB.more hb)⟩
structure POk (p:Gr.P):Prop where
 key:p.key.length≤1073741824
 val:VOk p.val
structure NOk (n:Gr.N):Prop where
 id:Cel.In64 n.id
 ll:n.labels.length≤1073741824
 ls: ∀l∈n.labels,l.length≤1073741824
 pl:n.props.length≤1073741824
 ps: ∀p∈n.props,POk p
structure ROk (r:Gr.R):Prop where
 id:Cel.In64 r.id
 tl:r.type.length≤1073741824
 src:Cel.In64 r.src
 dst:Cel.In64 r.dst
 pl:r.props.length≤1073741824
 ps: ∀p∈r.props,POk p
structure GOk (g:Gr.G):Prop where
 nl:g.nodes.length≤1073741824
 ns: ∀n∈g.nodes,NOk n
 rl:g.ah.length≤1073741824
 rs: ∀r∈g.ah,ROk r
structure GIn (W:World) (B:Nat) (u:Value) (g:Gr.G):Prop where
 ex: ∃An cn Ar cr,u= .agg #[.slice An g.nodes.length cn, .slice Ar g.ah.length cr]∧Lst W B 3 (bU W B) An g.nodes∧Lst W B 5 (bV W B) Ar g.ah
 ok:GOk g
theorem GIn.below {W W':World} {B:Nat} {u:Value} {g:Gr.G} (h:GIn W B u g) (hb:Below B W W'):GIn W' B u g:=by
 obtain ⟨An,cn,Ar,cr,e,h1,h2⟩:=h.ex
 exact ⟨⟨An,cn,Ar,cr,e,h1.below hb (bU.below hb),h2.below hb (bV.below hb)⟩,h.ok⟩
theorem GIn.more {W:World} {B B':Nat} {u:Value} {g:Gr.G} (h:GIn W B u g) (hb:B≤B'):GIn W B' u g:=by
 obtain ⟨An,cn,Ar,cr,e,h1,h2⟩:=h.ex
 exact ⟨⟨An,cn,Ar,cr,e,h1.more hb (bU.more hb),h2.more hb (bV.more hb)⟩,h.ok⟩
theorem Kr (s:ByteArray) (k:Nat):(s.extract k s.size).data.toList=s.data.toList.drop k:=by
 rw [Lib.extract_data,List.take_of_length_le]
 rw [List.length_drop,←Lib.size_eq]
 omega
theorem qA (i o e:Nat):bY (.err o e) i= .agg #[.int .i64 0, .string ⟨#[]⟩, .int .i64 0, .int .i64 ((i+o:Nat):Int), .int .i64 0, .int .i64 (e:Int)]:=rfl
namespace Lex
def Ku (g:Nat) (r:L) (o:Nat) (acc:L):Option (UInt8×Nat)→Res
 | none=> .err o 242
 | some (y,n)=>aN (g+1) (r.drop n) (o+1+n) (acc ++ [y])
theorem Kv (g:Nat) (r:L) (o:Nat) (acc:L):aN (g+1+1) (92 :: r) o acc=Ku g r o acc (esc r):=by
 simp only [aN]
 rw [if_neg (by decide),if_neg (by decide),if_true]
 cases esc r with
 | none=>rfl
 | some x=>rfl
end Lex
structure Kw (s:ByteArray) (i:Nat) (R:Lex.Res) (w:World) (g k o:Nat) (acc:List UInt8) (wx:World):Prop where
 off:i+o=k
 meas:s.size - k≤g
 len:acc.length≤k
 le:k≤s.size
 text:Lex.aN (g+1) (s.data.toList.drop k) o acc=R
 bel:Below w.heap.size w wx
 blk:Blk wx w.heap.size 207 #[.int .i64 0, .string ⟨#[]⟩, .int .i64 0, .int .i64 0, .int .i64 0, .int .i64 0]
 bld:Bld (w.heap.size+1) (w.heap.size+1) acc wx
 big:w.heap.size+1≤wx.heap.size
theorem Ky (s:ByteArray) (i:Nat) (w:World) (hs:s.size≤1073741823) (hi:i<s.size):
  Calls Tryz.prog 202 #[.string s, .int .i64 i] w (iR (Lex.aN (s.size - i) (s.data.toList.drop (i+1)) 1 []) i w):=by
 obtain ⟨R,hR⟩: ∃R,Lex.aN (s.size - i) (s.data.toList.drop (i+1)) 1 []=R:=⟨_,rfl⟩
 rw [hR]
 have HR:=hq7 hR
 clear hR
 have hii:(i:Int)<s.size:=by omega
 go_enter Tryz.func202,Tryz.ntmps202
 go_wp2
 go_loopg [6] (s.size -(i+1)) (fun g x wx=> ∃(k o:Nat) (acc:List UInt8),x= .int .i64 k∧Kw s i R w g k o acc wx)
 case atStart=>
  refine ⟨i+1,1, [],int_eq' (by omega),⟨by omega,by omega,by simp,by omega, ?_, ?_, ?_, ?_, ?_⟩⟩
  ·rw [show s.size -(i+1)+1=s.size - i by omega];exact HR.out
  ·exact ((Below.refl _ w).alloc (Nat.le_refl _) _).alloc (by simp) _
  ·exact (Blk.new _ _ _).alloc _
  ·have:=Bld.fresh (w.alloc (.cells #[.int .i64 0, .string ⟨#[]⟩, .int .i64 0, .int .i64 0, .int .i64 0, .int .i64 0] 207));simpa using this
  ·simp
 case round=>
  obtain ⟨k,o,acc,rfl,hrel⟩:=hrel
  have HQ:=hq7 hrel
  have hsz:=hrel.big
  have hkle:=hrel.le
  have hki:(k:Int)≤1073741823:=by omega
  clear hrel
  by_cases hlt:k<s.size
  ·have hlti:(k:Int)<s.size:=by omega
   have t1:decide (k<s.size)=true:=decide_eq_true hlt
   cases gk with
   | zero=>have:=HQ.out.meas;omega
   | succ g=>
    have hst:=HQ.out.text
    rw [iQ hlt] at hst
    obtain ⟨c,hc⟩: ∃c,s[k]'hlt=c:=⟨_,rfl⟩
    rw [hc] at hst
    have hb:=byte_le c
    by_cases h39:c=39
    ·subst h39
     have hR2:R= .tok 4 acc 0 (o+1):=hst.symm
     have hend:((i+(o+1):Nat):Int)=(k:Int)+1:=by have:=HQ.out.off;omega
     have ht:bY R i= .agg #[.int .i64 4, .string ⟨acc.toArray⟩, .int .i64 0, .int .i64 i, .int .i64 ((k:Int)+1), .int .i64 0]:=by
      rw [hR2]
      simp only [bY]
      rw [hend]
      rfl
     have HT:=hq7 ht
     clear hst hR2 hend ht
     go_wp2_with fail
     refine (tC (w.heap.size+1) (w.heap.size+1) acc wr HQ.out.bld hsz).mono ?_
     rintro e w2 ⟨rfl,hbld2,hbel2,-⟩
     have hz2:=hbel2.size
     have HK2:=hq7 (HQ.out.blk.below hbel2 (by omega))
     obtain ⟨g0,g1,g2,g3,g4,g5,f0,f1,f2,f3,f4,f5⟩:=dF HK2.out
     have HB2:=hq7 (HQ.out.bel.trans (hbel2.mono (B':=w.heap.size) (by omega)))
     clear hbel2 hbld2
     go_wp2
     exact gq Tryz.results202 rfl HK2.out HB2.out HT.out
    have t39:(((c.toNat:Nat):Int) == 39)=false:=bq (k:=39) rfl (beq_eq_false_iff_ne.2 h39)
    by_cases h92:c=92
    ·subst h92
     obtain ⟨z,hz⟩: ∃z,s.extract (k+1) s.size=z:=⟨_,rfl⟩
     have hzd:z.data.toList=s.data.toList.drop (k+1):=by rw [←hz,Kr]
     have hzl:z.data.toList.length=s.size -(k+1):=by rw [hzd,List.length_drop,←Lib.size_eq]
     have hzs:z.size≤1073741824:=by rw [Lib.size_eq,hzl];omega
     have hesc:=fun (W:World)=>IY z W hzs
     obtain ⟨x,hx⟩: ∃x,Lex.esc z.data.toList=x:=⟨_,rfl⟩
     rw [hx] at hesc
     have hst2:=Lex.Kv g (s.data.toList.drop (k+1)) o acc
     rw [←hzd,hx,hzd] at hst2
     rw [hst] at hst2
     have HE:=hq7 hesc
     have HX:=hq7 hx
     have HZL:=hq7 hzl
     have hk1i:(k:Int)+1≤s.size:=by omega
     have HKX:=hq7 HQ.out.blk
     have HBX:=hq7 HQ.out.bel
     clear hst hzd hzl hzs hesc hx t39
     cases x with
     | none=>
      have hR2:R= .err o 242:=hst2
      have hoff:((i+o:Nat):Int)=k:=by have:=HQ.out.off;omega
      have ht:bY R i= .agg #[.int .i64 0, .string ⟨#[]⟩, .int .i64 0, .int .i64 k, .int .i64 0, .int .i64 242]:=by
       rw [hR2,qA,hoff]
       rfl
      have HT:=hq7 ht
      clear hst2 hR2 hoff ht
      go_wp2_with fail
      refine (HE.out _).mono ?_
      rintro e w1 ⟨hb1,c1,n1,rfl⟩
      have hz1:=hb1.size
      have HKY:=hq7 (HKX.out.below hb1 (by omega))
      have HBY:=hq7 (HBX.out.trans (hb1.mono HBX.out.size))
      clear hb1
      go_wp2_with fail
      refine (lU (k:Int) 242 _).mono ?_
      rintro e w2 ⟨rfl,hb2⟩
      have hz2:=hb2.size
      have HK2:=hq7 (Blk.below HKY.out hb2 (by omega))
      obtain ⟨g0,g1,g2,g3,g4,g5,f0,f1,f2,f3,f4,f5⟩:=dF HK2.out
      have HB2:=hq7 (Below.trans HBY.out (hb2.mono HBY.out.size))
      clear hb2
      go_wp2
      exact gq Tryz.results202 rfl HK2.out HB2.out HT.out
     | some x=>
      obtain ⟨y,n⟩:=x
      have hn:=Lex.oV HX.out
      rw [HZL.out] at hn
      have hst3:R=Lex.aN (g+1) ((s.data.toList.drop (k+1)).drop n) (o+1+n) (acc ++ [y]):=hst2
      have HS:=hq7 hst3
      have hyb:=byte_le y
      have hLX:=HQ.out.bld
      have HLX:=hq7 hLX
      have hal:=HQ.out.len
      have hkn:(k:Int)+n≤s.size:=by omega
      clear hst2 hst3 hLX
      go_wp2_with fail
      refine (HE.out _).mono ?_
      rintro e w1 ⟨hb1,rfl⟩
      have hz1:=hb1.size
      have HKY:=hq7 (HKX.out.below hb1 (by omega))
      have HBY:=hq7 (HBX.out.trans (hb1.mono HBX.out.size))
      have HLY:=hq7 (HLX.out.below hb1)
      clear hb1
      go_wp2_with fail
      refine (gJ (w.heap.size+1) (w.heap.size+1) acc (y.toNat:Int) _ HLY.out (by omega) (by omega) (by omega) (by omega)).mono ?_
      rintro e w2 ⟨rfl,hbld2,hbel2,-⟩
      have hz2:=hbel2.size
      have HK2:=hq7 (HKY.out.below hbel2 (by omega))
      have HB2:=hq7 (HBY.out.trans (hbel2.mono (B':=w.heap.size) (by omega)))
      have HL2:=hq7 hbld2
      clear hbel2 hbld2
      go_wp2
      go_roundg g
      case measure=>omega
      case rel=>
       refine ⟨k+1+n,o+1+n,acc ++ [(y.toNat:Int).toNat.toUInt8],int_eq' (by omega),⟨by have:=HQ.out.off;omega,by have:=HQ.out.meas;omega,by rw [List.length_append,List.length_singleton];omega,by omega, ?_,HB2.out,HK2.out,HL2.out,by omega⟩⟩
       rw [byte_back,HS.out,List.drop_drop]
    have t92:(((c.toNat:Nat):Int) == 92)=false:=bq (k:=92) rfl (beq_eq_false_iff_ne.2 h92)
    have hu:=eu
    by_cases ho:Lex.odd c=true
    ·have hR2:R= .err o 240:=by
      rw [←hst]
      simp only [Lex.aN]
      rw [if_neg h39,if_pos ho]
     have hoff:((i+o:Nat):Int)=k:=by have:=HQ.out.off;omega
     have ht:bY R i= .agg #[.int .i64 0, .string ⟨#[]⟩, .int .i64 0, .int .i64 k, .int .i64 0, .int .i64 240]:=by
      rw [hR2,qA,hoff]
      rfl
     have HT:=hq7 ht
     have HKX:=hq7 HQ.out.blk
     have HBX:=hq7 HQ.out.bel
     clear hst hR2 hoff ht h39 h92
     by_cases h32:c.toNat<32
     ·have d1:decide ((c.toNat:Int)<32)=true:=decide_eq_true (by omega)
      clear ho
      go_wp2_with fail
      refine (lU (k:Int) 240 _).mono ?_
      rintro e w2 ⟨rfl,hb2⟩
      have hz2:=hb2.size
      have HK2:=hq7 (Blk.below HKX.out hb2 (by omega))
      obtain ⟨g0,g1,g2,g3,g4,g5,f0,f1,f2,f3,f4,f5⟩:=dF HK2.out
      have HB2:=hq7 (Below.trans HBX.out (hb2.mono HBX.out.size))
      clear hb2
      go_wp2
      exact gq Tryz.results202 rfl HK2.out HB2.out HT.out
     ·have d1:decide ((c.toNat:Int)<32)=false:=decide_eq_false (by omega)
      have d2:decide (126<(c.toNat:Int))=true:=by
       simp only [Lex.odd] at ho
       rw [decide_eq_false h32,Bool.false_or] at ho
       have:=of_decide_eq_true ho
       exact decide_eq_true (by omega)
      clear ho
      go_wp2_with fail
      refine (lU (k:Int) 240 _).mono ?_
      rintro e w2 ⟨rfl,hb2⟩
      have hz2:=hb2.size
      have HK2:=hq7 (Blk.below HKX.out hb2 (by omega))
      obtain ⟨g0,g1,g2,g3,g4,g5,f0,f1,f2,f3,f4,f5⟩:=dF HK2.out
      have HB2:=hq7 (Below.trans HBX.out (hb2.mono HBX.out.size))
      clear hb2
      go_wp2
      exact gq Tryz.results202 rfl HK2.out HB2.out HT.out
    have hodd:Lex.odd c=false:=by
     cases h:Lex.odd c with
     | false=>rfl
     | true=>exact absurd h ho
    have d1:decide ((c.toNat:Int)<32)=false:=by
     simp only [Lex.odd,Bool.or_eq_false_iff] at hodd
     have:=of_decide_eq_false hodd.1
     exact decide_eq_false (by omega)
    have d2:decide (126<(c.toNat:Int))=false:=by
     simp only [Lex.odd,Bool.or_eq_false_iff] at hodd
     have:=of_decide_eq_false hodd.2
     exact decide_eq_false (by omega)
    have hst2:Lex.aN (g+1) (s.data.toList.drop (k+1)) (o+1) (acc ++ [c])=R:=by
     rw [←hst]
     exact (Lex.yC h39 hodd h92).symm
    have HS:=hq7 hst2
    have HKX:=hq7 HQ.out.blk
    have HBX:=hq7 HQ.out.bel
    have HLX:=hq7 HQ.out.bld
    have hal:=HQ.out.len
    clear hst hst2 ho hodd h39 h92
    go_wp2_with fail
    refine (gJ (w.heap.size+1) (w.heap.size+1) acc (c.toNat:Int) _ HLX.out (by omega) (by omega) (by omega) (by omega)).mono ?_
    rintro e w2 ⟨rfl,hbld2,hbel2,-⟩
    have hz2:=hbel2.size
    have HK2:=hq7 (HKX.out.below hbel2 (by omega))
    have HB2:=hq7 (HBX.out.trans (hbel2.mono (B':=w.heap.size) (by omega)))
    have HL2:=hq7 hbld2
    clear hbel2 hbld2
    go_wp2
    go_roundg g
    case measure=>omega
    case rel=>
     refine ⟨k+1,o+1,acc ++ [(c.toNat:Int).toNat.toUInt8],int_eq' (by omega),⟨by have:=HQ.out.off;omega,by have:=HQ.out.meas;omega,by rw [List.length_append,List.length_singleton];omega,by omega, ?_,HB2.out,HK2.out,HL2.out,by omega⟩⟩
     rw [byte_back,HS.out]
  ·have t1:decide (k<s.size)=false:=decide_eq_false hlt
   have hR2:R= .err 0 241:=by
    have:=HQ.out.text
    rw [kX (by omega)] at this
    exact this.symm
   have ht:bY R i= .agg #[.int .i64 0, .string ⟨#[]⟩, .int .i64 0, .int .i64 i, .int .i64 0, .int .i64 241]:=by
    rw [hR2,qA,Nat.add_zero]
    rfl
   have HT:=hq7 ht
   have HKX:=hq7 HQ.out.blk
   have HBX:=hq7 HQ.out.bel
   clear hR2 ht
   go_wp2_with fail
   refine (lU (i:Int) 241 _).mono ?_
   rintro e w2 ⟨rfl,hb2⟩
   have hz2:=hb2.size
   have HK2:=hq7 (Blk.below HKX.out hb2 (by omega))
   obtain ⟨g0,g1,g2,g3,g4,g5,f0,f1,f2,f3,f4,f5⟩:=dF HK2.out
   have HB2:=hq7 (Below.trans HBX.out (hb2.mono HBX.out.size))
   clear hb2
   go_wp2
   exact gq Tryz.results202 rfl HK2.out HB2.out HT.out
end Go.Proofs.YtoofbflplhbpbaaGreatDoor
namespace Go.Proofs.YtoofbflplhbpbaaGreatDoor
open Go.RowKit
theorem Kz (R:Lex.Res) (i:Nat): ∃(v0:Int) (v1:ByteArray) (v2 v3 v4 v5:Int),bY R i= .agg #[.int .i64 v0, .string v1, .int .i64 v2, .int .i64 v3, .int .i64 v4, .int .i64 v5]:=by
 cases R<;> exact ⟨_,_,_,_,_,_,rfl⟩
theorem KA: ∀c:Fin 256,Lib.contains [40,41,123,125,91,93,58,44,59,45] (Utf8.encode (wrap32 (c.val:Int))).data.toList=decide (UInt8.ofNat c.val∈Lex.MARKS):=by decide+kernel
theorem KC (c:UInt8):Lib.contains [40,41,123,125,91,93,58,44,59,45] (Utf8.encode (wrap32 (c.toNat:Int))).data.toList=decide (c∈Lex.MARKS):=by
 have:=KA ⟨c.toNat,UInt8.toNat_lt c⟩
 simp only [UInt8.ofNat_toNat] at this
 exact this
theorem KD (c:UInt8) (w:World) (hL:Laid w):
  Calls Tryz.prog 203 #[.string ⟨#[40,41,123,125,91,93,58,44,59,45]⟩, .string (Utf8.encode (wrap32 (c.toNat:Int)))] w fun e w'=>e= .returned (.bool (decide (c∈Lex.MARKS)))∧w=w':=by
 obtain ⟨m,hm⟩:=hL.max
 refine (Tryz.strings_Contains _ _ m w (by decide) hm).mono fun e w' ⟨he,hw⟩=>⟨?_,hw.symm⟩
 rw [he,←KC c]
namespace Lex
def behind (r:List UInt8):UInt8:=r.head?.getD 0
theorem uO (r:List UInt8):r.head?.any Num.au=Num.au (behind r):=by
 cases r with
 | nil=>decide
 | cons a r=>rfl
theorem Cb (r:List UInt8):r.head?=some 62↔behind r=62:=by
 cases r with
 | nil=>simp [behind]
 | cons a r=>simp [behind]
theorem Cc {c:UInt8} (h:Num.au c=true):c≠39∧isLet c=false∧c≠45:=by
 have: ∀c:Fin 256,Num.au (UInt8.ofNat c.val)=true→UInt8.ofNat c.val≠39∧isLet (UInt8.ofNat c.val)=false∧UInt8.ofNat c.val≠45:=by decide+kernel
 have:=this ⟨c.toNat,UInt8.toNat_lt c⟩
 simp only [UInt8.ofNat_toNat] at this
 exact this h
theorem KE {c:UInt8} (h:isLet c=true):c≠39:=by
 rintro rfl
 exact absurd h (by decide)
theorem KF {c:UInt8} (r:List UInt8) (h:isLet c=true):tok1 (c :: r)= .tok 1 ((c :: r).take (run aF (c :: r))) 0 (run aF (c :: r)):=by
 simp only [tok1]
 rw [if_neg (KE h),if_pos h]
theorem KG {c:UInt8} (r:List UInt8) (h:Num.au c=true):tok1 (c :: r)=eH ((c :: r).take (1+run bD r)):=by
 simp only [tok1]
 rw [if_neg (Cc h).1,if_neg (by rw [(Cc h).2.1];decide),if_pos (.inl h)]
theorem KH (r:List UInt8) (h:Num.au (behind r)=true):tok1 (45 :: r)=eH ((45 :: r).take (1+run bD r)):=by
 simp only [tok1]
 rw [if_neg (by decide),if_neg (by decide),if_pos (.inr ⟨trivial,by rw [uO];exact h⟩)]
theorem KI (r:List UInt8):tok1 (39 :: r)=aN (r.length+1) r 1 []:=by
 simp only [tok1,if_true]
theorem KJ (r:List UInt8) (h:behind r=62):tok1 (45 :: r)= .tok 5 [45,62] 0 2:=by
 simp only [tok1]
 have hd:Num.au (behind r)=false:=by rw [h];decide
 rw [if_neg (by decide),if_neg (by decide),if_neg,if_pos ⟨trivial,(Cb r).2 h⟩]
 rintro (h1 |⟨_,h1⟩)
 ·exact absurd h1 (by decide)
 ·rw [uO,hd] at h1;cases h1
theorem KL (r:List UInt8) (h1:Num.au (behind r)=false) (h2:behind r≠62):tok1 (45 :: r)= .tok 5 [45] 0 1:=by
 simp only [tok1]
 rw [if_neg (by decide),if_neg (by decide),if_neg,if_neg,if_pos (by decide)]
 ·rintro ⟨_,h⟩;exact h2 ((Cb r).1 h)
 ·rintro (h |⟨_,h⟩)
  ·exact absurd h (by decide)
  ·rw [uO,h1] at h;cases h
theorem Ce {c:UInt8} (r:List UInt8) (h1:isLet c=false) (h2:Num.au c=false) (h3:c≠39) (h4:c≠45):tok1 (c :: r)=if c∈MARKS then .tok 5 [c] 0 1 else .err 0 240:=by
 simp only [tok1]
 rw [if_neg h3,if_neg (by rw [h1];decide),if_neg,if_neg (fun h=>h4 h.1)]
 rintro (h | h)
 ·rw [h2] at h;cases h
 ·exact h4 h.1
end Lex
theorem next_any (s:ByteArray) (i:Nat) (w:World) (hs:s.size≤1073741823) (hi:i<s.size) (hL:Laid w):
  Calls Tryz.prog 143 #[.string s, .int .i64 i] w (iR (Lex.tok1 (s.data.toList.drop i)) i w):=by
 have hlen:=Lib.size_eq s
 have hdrop:=iQ hi
 obtain ⟨c,hc⟩: ∃c,s[i]'hi=c:=⟨_,rfl⟩
 obtain ⟨r,hr⟩: ∃r,s.data.toList.drop (i+1)=r:=⟨_,rfl⟩
 rw [hc,hr] at hdrop
 have hrl:r.length=s.size -(i+1):=by rw [←hr,List.length_drop,hlen]
 obtain ⟨bh,hbh⟩: ∃b,Lex.behind r=b:=⟨_,rfl⟩
 have hii:(i:Int)<s.size:=by omega
 have h1i:(i:Int)≤1073741823:=by omega
 obtain ⟨R,hR⟩: ∃R,Lex.tok1 (s.data.toList.drop i)=R:=⟨_,rfl⟩
 obtain ⟨v0,v1,v2,v3,v4,v5,hv⟩:=Kz R i
 have hword:=fun (W:World)=>I4 s i W (by omega) (by omega)
 have hnum:=fun (W:World) (hb:Below w.heap.size w W)=>I9 s i W (by omega) hi (hL.below hb)
 have hquo:=fun (W:World)=>Ky s i W hs hi
 rw [hdrop] at hword hnum hR
 rw [hr] at hnum hquo
 have hcon:=fun (W:World) (hb:Below w.heap.size w W)=>KD c W (hL.below hb)
 have HCON:=hq7 hcon
 have hlt:=fun (W:World)=>yZ c W
 have hdg:=fun (W:World)=>sZ c W
 have hdb:=fun (W:World)=>sZ bh W
 have HWORD:=hq7 hword
 have HNUM:=hq7 hnum
 have HQUO:=hq7 hquo
 have HLT:=hq7 hlt
 have HDG:=hq7 hdg
 have HDB:=hq7 hdb
 have HR:=hq7 hR
 have HV:=hq7 hv
 have HDR:=hq7 hdrop
 have HRL:=hq7 hrl
 have HBH:=hq7 hbh
 have HRR:=hq7 hr
 rw [show Lex.tok1 (s.data.toList.drop i)=R by rw [hdrop];exact hR]
 clear hcon hword hnum hquo hlt hdg hdb hR hv hdrop hrl hlen hL
 go_enter Tryz.func143,Tryz.ntmps143
 go_upto_if 15 with (fail)
 go_cut [6] (fun v wx=>v= .int .u8 (bh.toNat:Int)∧w.alloc (.cells #[.int .i64 0, .string ⟨#[]⟩, .int .i64 0, .int .i64 0, .int .i64 0, .int .i64 0] 207)=wx)
 case first=>
  by_cases h1:i+1<s.size
  ·have h1i':(i:Int)+1<s.size:=by omega
   have t1:decide (i+1<s.size)=true:=decide_eq_true h1
   have t1':decide ((i:Int)+1<s.size)=true:=decide_eq_true h1i'
   have hb1:s[i+1]'h1=bh:=by
    have:=HRR.out
    rw [iQ h1] at this
    rw [←HBH.out,←this]
    rfl
   go_wp2
   go_meet
   exact ⟨rfl,rfl⟩
  ·have t1:decide (i+1<s.size)=false:=decide_eq_false h1
   have t1':decide ((i:Int)+1<s.size)=false:=decide_eq_false (by omega)
   have hb0:bh=0:=by
    have:=HRR.out
    rw [kX (by omega)] at this
    rw [←HBH.out,←this]
    rfl
   go_wp2
   go_meet
   exact ⟨by rw [hb0];rfl,rfl⟩
 case rest=>
  obtain ⟨rfl,rfl⟩:=hcut
  clear hr hbh
  have hu:=eu
  by_cases ha:Lex.isLet c=true
  ·have hl:=HLT.out
   rw [ha] at hl
   have HL1:=hq7 hl
   have hR1:=HR.out
   rw [Lex.KF r ha] at hR1
   have hw:=HWORD.out
   rw [hR1] at hw
   unfold iR at hw
   rw [HV.out] at hw
   have HW:=hq7 hw
   clear hl hR1 hw ha HLT HDG HDB HNUM HQUO HWORD
   go_wp2_with fail
   refine (HL1.out _).mono ?_
   rintro e w' ⟨rfl,rfl⟩
   go_wp2_with fail
   refine (HW.out _).mono ?_
   rintro e w2 ⟨rfl,hb⟩
   have hz2:=hb.size
   have HK2:=hq7 ((Blk.new w 207 #[.int .i64 0, .string ⟨#[]⟩, .int .i64 0, .int .i64 0, .int .i64 0, .int .i64 0]).below hb (by simp))
   obtain ⟨g0,g1,g2,g3,g4,g5,f0,f1,f2,f3,f4,f5⟩:=dF HK2.out
   have HB2:=hq7 (((Below.refl _ w).alloc (Nat.le_refl _) (.cells #[.int .i64 0, .string ⟨#[]⟩, .int .i64 0, .int .i64 0, .int .i64 0, .int .i64 0] 207)).trans (hb.mono (by simp)))
   clear hb
   go_wp2
   exact gq Tryz.results143 rfl HK2.out HB2.out HV.out
  have hl: ∀W:World,Calls Tryz.prog 198 #[.int .u8 c.toNat] W fun e w'=>e= .returned (.bool false)∧W=w':=by
   have:=HLT.out
   rwa [show Lex.isLet c=false from eq_false_of_ne_true ha] at this
  have HL1:=hq7 hl
  clear hl
  by_cases hd:Num.au c=true
  ·have hdc:=HDG.out
   rw [hd] at hdc
   have HD1:=hq7 hdc
   have hR1:=HR.out
   rw [Lex.KG r hd] at hR1
   have hw:=HNUM.out
   rw [hR1] at hw
   unfold iR at hw
   rw [HV.out] at hw
   have HW:=hq7 hw
   clear hdc hR1 hw ha hd HLT HDG HDB HNUM HQUO HWORD
   go_wp2_with fail
   refine (HL1.out _).mono ?_
   rintro e w' ⟨rfl,rfl⟩
   go_wp2_with fail
   refine (HD1.out _).mono ?_
   rintro e w' ⟨rfl,rfl⟩
   go_wp2_with fail
   refine (HW.out _ ((Below.refl _ w).alloc (Nat.le_refl _) _)).mono ?_
   rintro e w2 ⟨rfl,hb⟩
   have hz2:=hb.size
   have HK2:=hq7 ((Blk.new w 207 #[.int .i64 0, .string ⟨#[]⟩, .int .i64 0, .int .i64 0, .int .i64 0, .int .i64 0]).below hb (by simp))
   obtain ⟨g0,g1,g2,g3,g4,g5,f0,f1,f2,f3,f4,f5⟩:=dF HK2.out
   have HB2:=hq7 (((Below.refl _ w).alloc (Nat.le_refl _) (.cells #[.int .i64 0, .string ⟨#[]⟩, .int .i64 0, .int .i64 0, .int .i64 0, .int .i64 0] 207)).trans (hb.mono (by simp)))
   clear hb
   go_wp2
   exact gq Tryz.results143 rfl HK2.out HB2.out HV.out
  have hdc: ∀W:World,Calls Tryz.prog 200 #[.int .u8 c.toNat] W fun e w'=>e= .returned (.bool false)∧W=w':=by
   have:=HDG.out
   rwa [show Num.au c=false from eq_false_of_ne_true hd] at this
  have HD1:=hq7 hdc
  clear hdc
  by_cases h39:c=39
  ·subst h39
   have hR1:=HR.out
   rw [Lex.KI r,HRL.out,show s.size -(i+1)+1=s.size - i by omega] at hR1
   have hw:=HQUO.out
   rw [hR1] at hw
   unfold iR at hw
   rw [HV.out] at hw
   have HW:=hq7 hw
   clear hR1 hw ha hd HLT HDG HDB HNUM HQUO HWORD
   go_wp2_with fail
   refine (HL1.out _).mono ?_
   rintro e w' ⟨rfl,rfl⟩
   go_wp2_with fail
   refine (HD1.out _).mono ?_
   rintro e w' ⟨rfl,rfl⟩
   go_wp2_with fail
   refine (HW.out _).mono ?_
   rintro e w2 ⟨rfl,hb⟩
   have hz2:=hb.size
   have HK2:=hq7 ((Blk.new w 207 #[.int .i64 0, .string ⟨#[]⟩, .int .i64 0, .int .i64 0, .int .i64 0, .int .i64 0]).below hb (by simp))
   obtain ⟨g0,g1,g2,g3,g4,g5,f0,f1,f2,f3,f4,f5⟩:=dF HK2.out
   have HB2:=hq7 (((Below.refl _ w).alloc (Nat.le_refl _) (.cells #[.int .i64 0, .string ⟨#[]⟩, .int .i64 0, .int .i64 0, .int .i64 0, .int .i64 0] 207)).trans (hb.mono (by simp)))
   clear hb
   go_wp2
   exact gq Tryz.results143 rfl HK2.out HB2.out HV.out
  have t39:(((c.toNat:Nat):Int) == 39)=false:=bq (k:=39) rfl (beq_eq_false_iff_ne.2 h39)
  by_cases h45:c=45
  ·subst h45
   by_cases hbd:Num.au bh=true
   ·have hdb:=HDB.out
    rw [hbd] at hdb
    have HD2:=hq7 hdb
    have hR1:=HR.out
    rw [Lex.KH r (by rw [HBH.out];exact hbd)] at hR1
    have hw:=HNUM.out
    rw [hR1] at hw
    unfold iR at hw
    rw [HV.out] at hw
    have HW:=hq7 hw
    clear hdb hR1 hw ha hd hbd HLT HDG HDB HNUM HQUO HWORD
    go_wp2_with fail
    refine (HL1.out _).mono ?_
    rintro e w' ⟨rfl,rfl⟩
    go_wp2_with fail
    refine (HD1.out _).mono ?_
    rintro e w' ⟨rfl,rfl⟩
    go_wp2_with fail
    refine (HD2.out _).mono ?_
    rintro e w' ⟨rfl,rfl⟩
    go_wp2_with fail
    refine (HW.out _ ((Below.refl _ w).alloc (Nat.le_refl _) _)).mono ?_
    rintro e w2 ⟨rfl,hb⟩
    have hz2:=hb.size
    have HK2:=hq7 ((Blk.new w 207 #[.int .i64 0, .string ⟨#[]⟩, .int .i64 0, .int .i64 0, .int .i64 0, .int .i64 0]).below hb (by simp))
    obtain ⟨g0,g1,g2,g3,g4,g5,f0,f1,f2,f3,f4,f5⟩:=dF HK2.out
    have HB2:=hq7 (((Below.refl _ w).alloc (Nat.le_refl _) (.cells #[.int .i64 0, .string ⟨#[]⟩, .int .i64 0, .int .i64 0, .int .i64 0, .int .i64 0] 207)).trans (hb.mono (by simp)))
    clear hb
    go_wp2
    exact gq Tryz.results143 rfl HK2.out HB2.out HV.out
   have hdb: ∀W:World,Calls Tryz.prog 200 #[.int .u8 bh.toNat] W fun e w'=>e= .returned (.bool false)∧W=w':=by
    have:=HDB.out
    rwa [show Num.au bh=false from eq_false_of_ne_true hbd] at this
   have HD2:=hq7 hdb
   clear hdb
   by_cases h62:bh=62
   ·subst h62
    have h2:i+2≤s.size:=by
     have h1:=HRL.out
     cases r with
     | nil=>have:=HBH.out;simp [Lex.behind] at this
     | cons a r=>rw [List.length_cons] at h1;omega
    have h2i:(i:Int)+2≤s.size:=by omega
    have h2j:(0:Int)≤(i:Int)+2:=by omega
    have hR1:=HR.out
    rw [Lex.KJ r HBH.out] at hR1
    have ht:bY R i= .agg #[.int .i64 5, .string ⟨#[45,62]⟩, .int .i64 0, .int .i64 i, .int .i64 ((i:Int)+2), .int .i64 0]:=by
     rw [←hR1]
     rfl
    have HT:=hq7 ht
    have hzz:s.extract i (i+2)=⟨#[45,62]⟩:=by
     apply ByteArray.ext
     apply Array.ext'
     rw [nG,HDR.out]
     cases r with
     | nil=>have:=HBH.out;simp [Lex.behind] at this
     | cons a r=>
      have:a=62:=HBH.out
      rw [this]
      rfl
    clear hR1 ht ha hd hbd
    go_wp2_with fail
    refine (HL1.out _).mono ?_
    rintro e w' ⟨rfl,rfl⟩
    go_wp2_with fail
    refine (HD1.out _).mono ?_
    rintro e w' ⟨rfl,rfl⟩
    go_wp2_with fail
    refine (HD2.out _).mono ?_
    rintro e w' ⟨rfl,rfl⟩
    go_wp2
    exact pU Tryz.results143 rfl (Blk.new _ _ _) ⟨by rw [HT.out],(Below.refl _ w).alloc (Nat.le_refl _) _⟩
   have t62:(((bh.toNat:Nat):Int) == 62)=false:=bq (k:=62) rfl (beq_eq_false_iff_ne.2 h62)
   have hR1:=HR.out
   rw [Lex.KL r (by rw [HBH.out];exact eq_false_of_ne_true hbd) (by rw [HBH.out];exact h62)] at hR1
   have ht:bY R i= .agg #[.int .i64 5, .string ⟨#[45]⟩, .int .i64 0, .int .i64 i, .int .i64 ((i:Int)+1), .int .i64 0]:=by
    rw [←hR1]
    rfl
   have HT:=hq7 ht
   have hcon:=HCON.out
   rw [show decide ((45:UInt8)∈Lex.MARKS)=true by decide,show wrap32 (((45:UInt8).toNat:Nat):Int)=45 by decide+kernel] at hcon
   have HC:=hq7 hcon
   have h1i':(i:Int)+1≤s.size:=by omega
   have hzz:s.extract i (i+1)=⟨#[45]⟩:=by
    apply ByteArray.ext
    apply Array.ext'
    rw [nG,HDR.out]
    rfl
   clear hR1 ht ha hd hbd hcon
   go_wp2_with fail
   refine (HL1.out _).mono ?_
   rintro e w' ⟨rfl,rfl⟩
   go_wp2_with fail
   refine (HD1.out _).mono ?_
   rintro e w' ⟨rfl,rfl⟩
   go_wp2_with fail
   refine (HD2.out _).mono ?_
   rintro e w' ⟨rfl,rfl⟩
   go_wp2_with fail
   refine (HC.out _ ((Below.refl _ w).alloc (Nat.le_refl _) _)).mono ?_
   rintro e w' ⟨rfl,rfl⟩
   go_wp2
   exact pU Tryz.results143 rfl (Blk.new _ _ _) ⟨by rw [HT.out],(Below.refl _ w).alloc (Nat.le_refl _) _⟩
  have t45:(((c.toNat:Nat):Int) == 45)=false:=bq (k:=45) rfl (beq_eq_false_iff_ne.2 h45)
  by_cases hm:c∈Lex.MARKS
  ·have hR1:=HR.out
   rw [Lex.Ce r (eq_false_of_ne_true ha) (eq_false_of_ne_true hd) h39 h45,if_pos hm] at hR1
   have hcon:=HCON.out
   rw [decide_eq_true hm] at hcon
   have HC:=hq7 hcon
   have ht:bY R i= .agg #[.int .i64 5, .string ⟨#[c]⟩, .int .i64 0, .int .i64 i, .int .i64 ((i:Int)+1), .int .i64 0]:=by
    rw [←hR1]
    rfl
   have HT:=hq7 ht
   have h1i':(i:Int)+1≤s.size:=by omega
   have hzz:s.extract i (i+1)=⟨#[c]⟩:=by
    apply ByteArray.ext
    apply Array.ext'
    rw [nG,HDR.out]
    rfl
   clear hR1 ht ha hd hm hcon h39 h45
   go_wp2_with fail
   refine (HL1.out _).mono ?_
   rintro e w' ⟨rfl,rfl⟩
   go_wp2_with fail
   refine (HD1.out _).mono ?_
   rintro e w' ⟨rfl,rfl⟩
   go_wp2_with fail
   refine (HC.out _ ((Below.refl _ w).alloc (Nat.le_refl _) _)).mono ?_
   rintro e w' ⟨rfl,rfl⟩
   go_wp2
   exact pU Tryz.results143 rfl (Blk.new _ _ _) ⟨by rw [HT.out],(Below.refl _ w).alloc (Nat.le_refl _) _⟩
  ·have hR1:=HR.out
   rw [Lex.Ce r (eq_false_of_ne_true ha) (eq_false_of_ne_true hd) h39 h45,if_neg hm] at hR1
   have hcon:=HCON.out
   rw [decide_eq_false hm] at hcon
   have HC:=hq7 hcon
   have ht:bY R i= .agg #[.int .i64 0, .string ⟨#[]⟩, .int .i64 0, .int .i64 i, .int .i64 0, .int .i64 240]:=by
    rw [←hR1,qA,Nat.add_zero]
    rfl
   have HT:=hq7 ht
   clear hR1 ht ha hd hm hcon h39 h45
   go_wp2_with fail
   refine (HL1.out _).mono ?_
   rintro e w' ⟨rfl,rfl⟩
   go_wp2_with fail
   refine (HD1.out _).mono ?_
   rintro e w' ⟨rfl,rfl⟩
   go_wp2_with fail
   refine (HC.out _ ((Below.refl _ w).alloc (Nat.le_refl _) _)).mono ?_
   rintro e w' ⟨rfl,rfl⟩
   go_wp2_with fail
   refine (lU (i:Int) 240 _).mono ?_
   rintro e w2 ⟨rfl,hb⟩
   have hz2:=hb.size
   have HK2:=hq7 ((Blk.new w 207 #[.int .i64 0, .string ⟨#[]⟩, .int .i64 0, .int .i64 0, .int .i64 0, .int .i64 0]).below hb (by simp))
   obtain ⟨g0,g1,g2,g3,g4,g5,f0,f1,f2,f3,f4,f5⟩:=dF HK2.out
   have HB2:=hq7 (((Below.refl _ w).alloc (Nat.le_refl _) (.cells #[.int .i64 0, .string ⟨#[]⟩, .int .i64 0, .int .i64 0, .int .i64 0, .int .i64 0] 207)).trans (hb.mono (by simp)))
   clear hb
   go_wp2
   exact gq Tryz.results143 rfl HK2.out HB2.out HT.out
end Go.Proofs.YtoofbflplhbpbaaGreatDoor
namespace Go.Proofs.YtoofbflplhbpbaaGreatDoor
open Go.RowKit
structure Same1 (T:TypeId) (n₁:Nat) (A B:World):Prop where
 os:B.os=A.os
 tape:B.tape=A.tape
 output:B.output=A.output
 size:A.heap.size≤B.heap.size
 low: ∀k,k<n₁→k<A.heap.size→B.heap[k]?=A.heap[k]?
 block: ∀(k:Nat) (o:Obj),A.heap[k]?=some o→(∀r,o≠ .loop r)→(∀c fz,o≠ .cells c T fz)→B.heap[k]?=some o
section
variable {T n₁:Nat} {A B C:World}
theorem Same1.refl (T n₁:Nat) (A:World):Same1 T n₁ A A:=⟨rfl,rfl,rfl,Nat.le_refl _,fun _ _ _=>rfl,fun _ _ h _ _=>h⟩
theorem Same1.trans (h:Same1 T n₁ A B) (k:Same1 T n₁ B C):Same1 T n₁ A C:=
 ⟨k.os.trans h.os,k.tape.trans h.tape,k.output.trans h.output,Nat.le_trans h.size k.size,fun i hi hA=>(k.low i hi (Nat.lt_of_lt_of_le hA h.size)).trans (h.low i hi hA),fun i o ho h1 h2=>k.block i o (h.block i o ho h1 h2) h1 h2⟩
theorem Same1.of_below (h:Below A.heap.size A B):Same1 T n₁ A B:=
 ⟨h.os,h.tape,h.output,h.size,fun k _ hk=>h.block k hk,fun k o ho _ _=>(h.block k (Array.getElem?_eq_some_iff.1 ho).1).trans ho⟩
theorem Same1.alloc (h:Same1 T n₁ A B) (o:Obj):Same1 T n₁ A (B.alloc o):=h.trans (.of_below ((Below.refl _ B).alloc (Nat.le_refl _) o))
theorem Same1.drewN (h:Same1 T n₁ A B) (n:Nat):Same1 T n₁ A (B.drewN n):=⟨h.os,h.tape,h.output,h.size,h.low,h.block⟩
theorem Same1.iW {g:Nat} {c:Array Value} {fz:Nat×Nat} (h:A.grownBy B (some g)) (hg:A.heap[g]?=some (.cells c T fz)) (hn:n₁≤g):Same1 T n₁ A B:=
 ⟨h.os,h.tape,h.output,h.size,fun k hk hA=>h.block k hA (by simp;omega),fun k o ho _ h2=>(h.block k (Array.getElem?_eq_some_iff.1 ho).1 (fun e=>by cases e;rw [hg] at ho;exact h2 c fz (Option.some.inj ho).symm)).trans ho⟩
theorem Same1.putObj {l:Nat} {r:Loop} (r':Loop) (h:A.heap[l]?=some (.loop r)) (hn:n₁≤l):Same1 T n₁ A (A.putObj l (.loop r')):=
 ⟨rfl,rfl,rfl,by simp [World.putObj],fun k hk _=>World.putObj_heap_other (by omega),fun k o ho h1 _=>by
  rw [World.putObj_heap_other (fun e=>by subst e;rw [h] at ho;exact h1 r (Option.some.inj ho).symm)]
  exact ho⟩
theorem Same1.cell (h:Same1 T n₁ A B) {b:Nat} {c:Array Value} {t:TypeId} {fz:Nat×Nat} (hb:A.heap[b]?=some (.cells c t fz)) (ht:t≠T):B.heap[b]?=some (.cells c t fz):=
 h.block b _ hb (fun r e=>by cases e) (fun c' fz' e=>by cases e;exact ht rfl)
theorem Same1.below {m:Nat} (h:Same1 T n₁ A B) (hm:m≤n₁) (hA:m≤A.heap.size):Below m A B:=⟨h.os,h.tape,h.output,h.size,fun k hk=>h.low k (by omega) (by omega)⟩
theorem Same1.own (h:Same1 T n₁ A B) {base size n:Nat} {e:TypeId} {v:Value} {xs:List Value} (ho:A.ownsRow base e size v n xs) (ht:e≠T):B.ownsRow base e size v n xs:=by
 refine ⟨ho.1, ?_⟩
 rcases ho.2 with hn |⟨g,cap,cur,rfl,hb,hg,rest⟩
 ·exact .inl hn
 ·exact .inr ⟨g,cap,cur,rfl,hb,h.cell hg ht,rest⟩
theorem Same1.blk (h:Same1 T n₁ A B) {b:Nat} {c:Array Value} {t:TypeId} (hb:Blk A b t c) (ht:t≠T):Blk B b t c:=h.cell hb ht
end
structure dI (T:TypeId) (A B:World):Prop where
 size:A.heap.size≤B.heap.size
 same: ∀(k:Nat) (c:Array Value) (fz:Nat×Nat),A.heap[k]?=some (Obj.cells c T fz)→B.heap[k]?=some (Obj.cells c T fz)
theorem dI.refl (T:TypeId) (A:World):dI T A A:=⟨Nat.le_refl _,fun _ _ _ h=>h⟩
theorem dI.trans {T:TypeId} {A B C:World} (h:dI T A B) (k:dI T B C):dI T A C:=⟨Nat.le_trans h.size k.size,fun i c fz hi=>k.same i c fz (h.same i c fz hi)⟩
theorem dI.iW {T:TypeId} {A B:World} {row:Option Nat} (h:A.grownBy B row) (hr: ∀g c fz,row=some g→A.heap[g]?≠some (.cells c T fz)):dI T A B:=
 ⟨h.size,fun k c fz hk=>(h.block k (Array.getElem?_eq_some_iff.1 hk).1 (fun e=>hr k c fz e.symm hk)).trans hk⟩
theorem dI.blk {T:TypeId} {A B:World} (h:dI T A B) {b:Nat} {c:Array Value} (hb:Blk A b T c):Blk B b T c:=h.same b c _ hb
def uP {α:Type} (P:Program) (T n₁ gf:Nat) (lb:Array Value) (encs:α→Array Value) (Pre:α→World→World→Prop) (Step:List α→α→Prop) (End:List α→Prop) (Aux:World→Prop) (W1:World):Prop:=
 ∀(l:Nat) (J:List α→World→Prop) (Fin:World→Prop),(∀pre W,J pre W→Aux W)→
  (∀pre A B,J pre A→Same1 T W1.heap.size A B→J pre B)→
  (∀pre x W0 W,J pre W0→Same1 T W1.heap.size W0 W→Pre x W0 W→Step pre x→YieldAt Fence.wide 7 P l (encs x) W fun e W'=>
   (e= .returned (.bool true)∧J (pre ++ [x]) W'∧dI T W W')∨(e= .returned (.bool false)∧Fin W'))→
  (∀pre W,J pre W→End pre→Fin W)→
  J [] W1→
  CallsIn Fence.wide 8 P gf (#[.func (.yield l) #[] #[]] ++ lb) W1 fun e W'=>(∃v,e= .returned v)∧Fin W'
def KN {α:Type} (B:Nat) (T:TypeId) (I:List α→World→Prop) (Ix:Code→World→Prop) (xs:List α) (W:World):Exit→Act→World→Prop
 | .normal,_,W'=>KeepsFrom B W W'∧dI T W W'∧I xs W'
 | .ret,_,W'=>KeepsFrom B W W'∧Ix .ret W'
 | .exit id,_,W'=>KeepsFrom B W W'∧Ix (.exit id) W'
 | .goto t,_,W'=>KeepsFrom B W W'∧Ix (.goto t) W'
 | .panic _,_,_=>False
 | .outgrown,_,_=>False
theorem uQ {P:Program} {f:FuncId} {fn:Func} {c:Code} {args:Array Value} {w:World} {R:Ending→World→Prop} (hf:P.funcs[f]?=some fn) (hb:fn.body=some c)
  (h:c.wp P (bodyPostM Fence.wide 9 P fn R) {tmps:=args ++ Array.replicate (fn.ntmps - args.size) undef,defers:= []} w):Calls P f args w R:=
 callsIn_wide.1 (callsIn_of_wp_marks (n:=9) hf hb trivial (wpIn_wide.2 h))
theorem lD {V:World} {D b:Nat} {t:TypeId} {c:Array Value} {o:Obj} (hK:V.heap[D]?=some (.deferred (some []))) (h:Blk V b t c):Blk (V.putObj D o) b t c:=
 (World.putObj_heap_other (fun e=>by subst e;unfold Blk at h;rw [hK] at h;cases h)).trans h
theorem KO {V:World} {D:Nat} (hK:V.heap[D]?=some (.deferred (some []))): ∀(k:Nat) (c:Array Value) (t:TypeId) (fz:Nat×Nat),V.heap[k]?=some (Obj.cells c t fz)→(V.putObj D (.deferred none)).heap[k]?=some (Obj.cells c t fz):=fun k c t fz h=>
 (World.putObj_heap_other (fun e=>by subst e;rw [hK] at h;cases h)).trans h
theorem Ci {V:World} {D base e size n:Nat} {v:Value} {xs:List Value} (hK:V.heap[D]?=some (.deferred (some []))) (h:V.ownsRow base e size v n xs):(V.putObj D (.deferred none)).ownsRow base e size v n xs:=by
 refine ⟨h.1, ?_⟩
 rcases h.2 with hn |⟨g,cap,cur,rfl,hb,hg,rest⟩
 ·exact .inl hn
 ·exact .inr ⟨g,cap,cur,rfl,hb,KO hK _ _ _ _ hg,rest⟩
theorem qB {B:Nat} {A V:World} {D:Nat} {o:Obj} (h:Below B A V) (hD:B≤D):Below B A (V.putObj D o):=
 ⟨h.os,h.tape,h.output,by simpa [World.putObj] using h.size,fun k hk=>(World.putObj_heap_other (by omega)).trans (h.block k hk)⟩
theorem qC {P:Program} {fn:Func} {tmps:Array Value} {R:Ending→World→Prop} {V:World} {D:Nat} {v:Value} (hK:V.heap[D]?=some (.deferred (some [])))
  (hr:(results fn tmps).run P (V.putObj D (.deferred none))= .ok v (V.putObj D (.deferred none))) (hR:R (.returned v) (V.putObj D (.deferred none))):
  bodyPostM Fence.wide 9 P fn R .ret {tmps:=tmps,defers:= [{target:= .collected D,args:= #[]}]} V:=
 ⟨by simp, .inl ⟨_,_,rfl,run_takeDeferred hK,⟨_,hr,hR⟩⟩⟩
end Go.Proofs.YtoofbflplhbpbaaGreatDoor
