/- Contracts and plain laws,part 15. -/
import Derived.Test.YtkdakckjafomhaaGreatDoorUW14
import Derived.RangeFuncNested
import Derived.RangeFuncBound
import Derived.RangeFuncCalls
import Derived.RangeFuncLeaves
import Derived.Shelf.Abstract
import Derived.Shelf.RegionOpen
import Derived.OwnWalkIn
import Derived.TacticsInMore
import Derived.LoopNIn
import Derived.LoopIn
set_option maxHeartbeats 64000000
set_option maxRecDepth 1000000
set_option linter.all false
namespace Go.Proofs.YtkdakckjafomhaaGreatDoor
open Go.RowKit
def S (l:List UInt8):Value:=.string ⟨l.toArray⟩
theorem pR:(Tryz.prog.info? 9).map (fun i=>(i.zero,i.size,i.bytes))=some (some (.string ⟨#[]⟩),1,16):=by kernel_rfl
def aiY (s:ByteArray) (b:Nat) (w:World) (res:Nat×List ay.F×ay.F) (e:Ending) (w':World):Prop:=
 w.grownBy w' (some b)/\
 match res with
 |(0,fs,r)=> ∃(v:Value) (at':Nat),e=.returned (.tuple #[v,.int .i64 0])/\w'.ownsRow w.heap.size 9 1 v fs.length (fs.map S)/\at'<=s.size/\s.data.toList.drop at'=r/\au w' b 140 #[.string s,.int .i64 at']
 |(k+1,_,_)=>e=.returned (.tuple #[.slice none 0 0,.int .i64 ((k:Int)+1)])
theorem aiZ (b:Nat) (s:ByteArray) (at_:Nat) (w:World) (hb:au w b 140 #[.string s,.int .i64 at_]) (hat:at_<=s.size) (hs:s.size<=16777216):
  Calls Tryz.prog 73 #[.pointer (some ⟨b,0,none⟩)] w (aiY s b w (ay.rowA (s.size - at_+1) [] (s.data.toList.drop at_))):=by
 obtain⟨i0,hi,hz0,hz1,hz2⟩:=info_parts pR;have hblt:=hb.lt;have HB:=ah hb;clear hb
 go_enter Tryz.func73,Tryz.ntmps73;go_wp2
 go_loopg [2,3] (s.size - at_) (fun g v e wx=> ∃(at':Nat) (acc:List ay.F),at'<=s.size/\s.size - at'<=g/\acc.length<=at'/\e=.int .i64 0/\w.grownBy wx (some b)/\au wx b 140 #[.string s,.int .i64 at']/\
  wx.ownsRow w.heap.size 9 1 v acc.length (acc.map S)/\ay.rowA (s.size - at_+1) [] (s.data.toList.drop at_)=ay.rowA (g+1) acc (s.data.toList.drop at'))
 case atStart=>exact⟨at_,[],by omega,by omega,by simp,rfl,mO w _,HB.out,World.ownsRow_nil _ _ _ _,rfl⟩
 obtain⟨at',acc,hle,hgk,hacc,rfl,hg,hblk,hown,hrow⟩:=hrel;have h0:=hblk.cell 0
 have h1:=hblk.cell 1;have f1:=hblk.frozen 1;simp at h0 h1;have HG:=ah hg;have HK:=ah hblk
 have HO:=ah hown;have HR:=ah hrow;clear hg hblk hown hrow;have hsz:=Lib.size_eq s
 obtain⟨res,hres⟩:=aj (ay.wR (s.data.toList.drop at'));have HF:=ah hres;clear hres
 have ane:(∃h:at'<s.size,s[at']'h=34)\/(∃h:at'<s.size,s[at']'h≠34)\/s.size<=at':=by
  by_cases h:at'<s.size
  ·by_cases h':s[at']'h=34
   ·exact .inl ⟨h,h'⟩
   exact .inr (.inl ⟨h,h'⟩)
  exact .inr (.inr (by omega))
 have field: ∀(W w2:World) (e:Ending),w.grownBy W (some b)->W.ownsRow w.heap.size 9 1 u2 acc.length (acc.map S)->JQ s b W res e w2->
   Hid (w.grownBy w2 (some b))/\Hid (w2.ownsRow w.heap.size 9 1 u2 acc.length (acc.map S))/\JQ s b W res e w2:=fun W w2 e h1 h2 h3=>
  ⟨tZ h1 h3.1,h2.kept h3.1 (.inr (fun e=>by have:=(h2.lt b e).1;omega)),h3⟩
 have FI:=ah field;clear field
 rcases ane with⟨hlt,fQ⟩|⟨hlt,fQ⟩|hend
 focus
  have hdr:s.data.toList.drop at'=34 :: s.data.toList.drop (at'+1):=by
   rw[aez (by omega)]
   congr 1
  have HQ:=ah (aiX b s (at'+1))
  have HD:Hid (ay.jc [] (s.data.toList.drop (at'+1))=res):=by rw[<-HF.out,hdr];exact rfl
  clear hdr hsz;go_wp2_with fail;refine(JO b s _ at' _ HK.out rfl hlt (by omega)).mono ?_
  rintro e w1 ⟨rfl,n1,rfl⟩;rw[fQ];go_wp2_with fail
  refine(HQ.out _ (by rw[show((at'+1:Nat):Int)=(at':Int)+1 by omega];exact Ac (w:=wr.drewN _) HK.out _) (by omega) (by omega)).mono ?_
  rintro e w2 hf;rw[HD.out]at hf
  have hf':=FI.out _ _ _ (wQ (nS HG.out n1) (p:=⟨b,1,none⟩) (.inl rfl) _) (World.ownsRow.kept (w:=wr.drewN n1) HO.out (grownBy_set _ _ _) (.inr (fun e=>by have:=(World.ownsRow.lt HO.out b e).1;omega))) hf
  clear HQ HD fQ hlt
 rotate_left
 focus
  have hdr:s.data.toList.drop at'=s[at']'hlt :: s.data.toList.drop (at'+1):=by
   rw[aez (by omega)]
   congr 1
  have hcb:(((s[at']'hlt).toNat:Int) == 34)=false:=adh.2 fun e=>fQ (afi.1 (by simp;omega))
  have HD:Hid (ay.rY (s.data.toList.drop at')=res):=by
   rw[<-HF.out,ay.ZV]
   ·exact rfl
   intro r e;rw[hdr]at e;exact fQ (List.cons.inj e).1
  clear hdr hsz fQ;go_wp2_with fail
  refine(JO b s _ at' _ HK.out rfl hlt (by omega)).mono ?_
  rintro e w1 ⟨rfl,n1,rfl⟩;go_wp2_with fail
  refine(aac b s at' (wr.drewN n1) HK.out hle (by omega)).mono ?_
  rintro e w2 hf;rw[HD.out]at hf;have hf':=FI.out _ _ _ (nS HG.out n1) HO.out hf
  clear HD hcb
 rotate_left
 focus
  have HD:Hid (ay.rY (s.data.toList.drop at')=res):=by
   rw[<-HF.out,aeJ (by omega)]
   exact rfl
  clear hsz;go_wp2_with fail;refine(Pe b s _ at' _ HK.out rfl hend).mono ?_
  rintro e w1 ⟨rfl,n1,rfl⟩;go_wp2_with fail
  refine(aac b s at' (wr.drewN n1) HK.out hle (by omega)).mono ?_
  rintro e w2 hf;rw[HD.out]at hf;have hf':=FI.out _ _ _ (nS HG.out n1) HO.out hf
  clear HD hend
 rotate_left
 all_goals
  clear hf HG HK HO FI h0 h1 f1;obtain⟨HG2,zK,_,hf2⟩:=hf';cases res with
  |none=>
   obtain rfl:=hf2;go_wp2
   go_ret2
   rw[HR.out,ay.aiz HF.out];exact⟨HG2.out,rfl⟩
  |some x=>
   obtain⟨f,r⟩:=x;obtain⟨rfl,at2,DR,qg,hblk2⟩:=hf2;have HD2:=ah qg;have aY:=ah hblk2
   clear qg hblk2
   go_wp2_with (at_builtin;refine wpList_append_own _ rfl _ _ 34 rfl w.heap.size 9 i0 (.string ⟨#[]⟩) 1 16 Tryz.underlying34 hi hz0 hz1 hz2 rfl (by decide) _ _ _ rfl (World.ownsRow.alloc zK.out _) ⟨w2.heap.size,0,none⟩ 1 1 [.string ⟨f.toArray⟩] rfl rfl ?c1 ?c2 ?c3 ?c4 ?c5 ?_)
   case c1=>exact cell_one_new _ _ _
   case c2=>simp[Value.oneCell']
   case c3=>unfold maxLen;omega
   case c4=>omega
   case c5=>have:=HG2.size;simp;omega
   intro v' w3 hown3 hgrow _
   have hnew: ∀i,u2.ownBlock=some i->w.heap.size<=i:=fun i e=>(World.ownsRow.lt zK.out i e).1
   have vM:=ah (ahn (wO HG2.out (.cells #[.string ⟨f.toArray⟩] 9)) hgrow hnew)
   have hblk3:au w3 b 140 #[.string s,.int .i64 at2]:=au.grown (au.alloc aY.out _) hgrow (fun e=>by have:=hnew b e.symm;omega)
   have KZ:Hid (w3.ownsRow w.heap.size 9 1 v' (acc++[f]).length ((acc++[f]).map S)):=by
    have:(acc++[f]).map S=acc.map S++[.string ⟨f.toArray⟩]:=by simp[S]
    rw[this,adf];exact hown3
   have g0:=hblk3.cell 0;have g1:=hblk3.cell 1;have f1:=hblk3.frozen 1;simp at g0 g1
   have dB:=ah hblk3;have hsz:=Lib.size_eq s
   have dS:Hid (ay.rowA (s.size - at_+1) [] (s.data.toList.drop at_)=ay.rowB gk acc f r):=by
    show _=_
    rw[HR.out,ay.aiA HF.out]
   have hlen:r.length<=(s.data.toList.drop at').length:=(ay.ZY HF.out).1
   have hlr:r.length=s.size - at2:=by rw[<-HD2.out,aej];omega
   have hmono:s.size - at2<=s.size - at':=by rw[aej]at hlen;omega
   clear hown3 hblk3 hgrow hnew HG2 zK aY HR HF hlen;by_cases hend:s.size<=at2
   ·have hr0:r=[]:=adB (by omega)
    subst hr0;clear hsz hlr;go_wp2_with fail
    refine(Pe b s _ at2 _ dB.out rfl hend).mono ?_;rintro e w4 ⟨rfl,n4,rfl⟩;go_wp2
    go_ret2
    rw[dS.out];exact⟨nS vM.out _,v',at2,rfl,KZ.out,DR,HD2.out,dB.out⟩
   have hlt2:at2<s.size:=by omega
   obtain⟨c,hc⟩:=aj (s[at2]'hlt2)
   have hr1:r=c :: s.data.toList.drop (at2+1):=by
    rw[<-HD2.out,aez (by omega)]
    congr 1
   obtain⟨r',hr'⟩:=aj (s.data.toList.drop (at2+1));rw[hr']at hr1;subst hr1
   have HC:=ah hc;have HR':=ah hr';clear hsz hlr hc hr';go_wp2_with fail
   refine(JO b s _ at2 _ dB.out rfl hlt2 (by omega)).mono ?_
   rintro e w4 ⟨rfl,n4,rfl⟩;rw[HC.out];by_cases iU:c=44
   ·subst iU
    go_wp2;cases gk with
    |zero=>omega
    |succ g=>
     go_roundg g
     case measure=>omega
     refine⟨at2+1,acc++[f],by omega,by omega,by simp;omega,rfl,wQ (nS vM.out n4) (.inl rfl) _, ?_,World.ownsRow.kept (w:=w3.drewN n4) KZ.out (grownBy_set _ _ _) (.inr (fun e=>by have:=(World.ownsRow.lt KZ.out b e).1;omega)), ?_⟩
     ·rw[show((at2+1:Nat):Int)=(at2:Int)+1 by omega]
      exact Ac (w:=w3.drewN n4) dB.out _
     rw[dS.out,HR'.out];rw[ay.TN,adk rfl]
   have hcb:((c.toNat:Int) !=44)=true:=by
    rw[adY];exact fun e=>iU (afi.1 (by simp;omega))
   obtain⟨P,hP⟩:=aj (Lib.hasPrefix (c :: r') [13,10])
   have Qz: ∀wx:World,Calls Tryz.prog 116 #[.string (s.extract at2 s.size),.string ⟨#[13,10]⟩] wx fun e w'=>e=.returned (.bool P)/\w'=wx:=fun wx=>
    (Tryz.strings_HasPrefix _ _ wx).mono fun e w' ⟨he,hw⟩=>⟨by rw[he,Ph,HD2.out];exact JC (aeH Value.bool hP),hw⟩
   have hP':P=decide (c=13/\r'.head?=some 10):=by
    rw[<-hP];unfold Lib.hasPrefix;cases r' with
    |nil=>simp[List.isPrefixOf]
    |cons d r'=>
     by_cases h13:c=13
     ·subst h13
      by_cases h10:d=10
      ·subst h10;simp[List.isPrefixOf]
      simp[List.isPrefixOf,h10];exact fun e=>h10 e.symm
     simp[List.isPrefixOf,h13];intro e;exact absurd e.symm h13
   clear hP;have hi2:((at2:Int))<=s.size:=by omega
   cases P with
   |true=>
    have hcr:=adN hP'.symm;clear hP';go_wp2
    go_quiet ((go_at_call 116;first|exact Calls.quiet_of_same (Qz _)|exact ET (Qz _)))
    go_wp2
    go_ret2
    have hrb:ay.rowB gk acc f (c :: r')=(0,acc++[f],r'.tail):=by
     rw[ay.TN,ade iU,adk hcr]
    have hd2:s.data.toList.drop (at2+2)=r'.tail:=by
     rw[<-HR'.out,List.tail_drop]
    have hle2:at2+2<=s.size:=by
     have h5:=Lib.size_eq s;have h6:=aeH List.length HR'.out;rw[aej]at h6
     have h7:0<r'.length:=by
      cases r' with
      |nil=>simp at hcr
      |cons a r'=>simp
     omega
    rw[dS.out,hrb]
    refine⟨wQ (nS vM.out _) (.inl rfl) _,v',at2+2,rfl,World.ownsRow.kept (w:=w3.drewN _) KZ.out (grownBy_set _ _ _) (.inr (fun e=>by have:=(World.ownsRow.lt KZ.out b e).1;omega)),hle2,hd2, ?_⟩
    rw[show((at2+2:Nat):Int)=(at2:Int)+2 by omega]
    exact Ac (w:=w3.drewN _) dB.out _
   |false=>
    have hcr:=adM hP'.symm;clear hP';go_wp2
    go_quiet ((go_at_call 116;first|exact Calls.quiet_of_same (Qz _)|exact ET (Qz _)))
    go_wp2
    go_ret2
    have hrb:ay.rowB gk acc f (c :: r')=(211,[],[]):=by
     rw[ay.TN,ade iU,ade hcr]
    rw[dS.out,hrb];exact⟨nS (nS vM.out _) _,rfl⟩
structure aT (T:TypeId) (n₁:Nat) (A B:World):Prop where
 os:B.os=A.os
 tape:B.tape=A.tape
 output:B.output=A.output
 size:A.heap.size<=B.heap.size
 low: ∀k,k<n₁->k<A.heap.size->B.heap[k]?=A.heap[k]?
 block: ∀(k:Nat) (o:Obj),A.heap[k]?=some o->(∀r,o≠ .loop r)->(∀c fz,o≠ .cells c T fz)->B.heap[k]?=some o
section
variable {T n₁:Nat} {A B C:World}
theorem aT.refl (T n₁:Nat) (A:World):aT T n₁ A A:=⟨rfl,rfl,rfl,ac4 _,fun _ _ _=>rfl,fun _ _ h _ _=>h⟩
theorem aT.trans (h:aT T n₁ A B) (k:aT T n₁ B C):aT T n₁ A C:=
 ⟨k.os.trans h.os,k.tape.trans h.tape,k.output.trans h.output,adg h.size k.size,fun i hi hA=>(k.low i hi (adW hA h.size)).trans (h.low i hi hA),fun i o ho h1 h2=>k.block i o (h.block i o ho h1 h2) h1 h2⟩
theorem aT.of_below (h:Below A.heap.size A B):aT T n₁ A B:=
 ⟨h.os,h.tape,h.output,h.size,fun k _ hk=>h.block k hk,fun k o ho _ _=>(h.block k (adZ.1 ho).1).trans ho⟩
theorem aT.alloc (h:aT T n₁ A B) (o:Obj):aT T n₁ A (B.alloc o):=h.trans (.of_below ((Below.refl _ B).alloc (ac4 _) o))
theorem aT.drewN (h:aT T n₁ A B) (n:Nat):aT T n₁ A (B.drewN n):=⟨h.os,h.tape,h.output,h.size,h.low,h.block⟩
theorem aT.Ad {g:Nat} {c:Array Value} {fz:Nat×Nat} (h:A.grownBy B (some g)) (hg:A.heap[g]?=some (.cells c T fz)) (hn:n₁<=g):aT T n₁ A B:=
 ⟨h.os,h.tape,h.output,h.size,fun k hk hA=>h.block k hA (by simp;omega),fun k o ho _ h2=>(h.block k (adZ.1 ho).1 (fun e=>by cases e;rw[hg]at ho;exact h2 c fz (ad4 ho).symm)).trans ho⟩
theorem aT.putObj {l:Nat} {r:Loop} (r':Loop) (h:A.heap[l]?=some (.loop r)) (hn:n₁<=l):aT T n₁ A (A.putObj l (.loop r')):=
 ⟨rfl,rfl,rfl,by simp[World.putObj],fun k hk _=>World.putObj_heap_other (by omega),fun k o ho h1 _=>by
  rw[World.putObj_heap_other (fun e=>by subst e;rw[h]at ho;exact h1 r (ad4 ho).symm)]
  exact ho⟩
theorem aT.cell (h:aT T n₁ A B) {b:Nat} {c:Array Value} {t:TypeId} {fz:Nat×Nat} (hb:A.heap[b]?=some (.cells c t fz)) (ht:t≠T):B.heap[b]?=some (.cells c t fz):=
 h.block b _ hb (fun r e=>by cases e) (fun c' fz' e=>by cases e;exact ht rfl)
theorem aT.below {m:Nat} (h:aT T n₁ A B) (hm:m<=n₁) (hA:m<=A.heap.size):Below m A B:=⟨h.os,h.tape,h.output,h.size,fun k hk=>h.low k (by omega) (by omega)⟩
theorem aT.own (h:aT T n₁ A B) {base size n:Nat} {e:TypeId} {v:Value} {xs:List Value} (ho:A.ownsRow base e size v n xs) (ht:e≠T):B.ownsRow base e size v n xs:=by
 refine⟨ho.1, ?_⟩
 rcases ho.2 with hn|⟨g,cap,cur,rfl,hb,hg,rest⟩
 ·exact .inl hn
 exact .inr ⟨g,cap,cur,rfl,hb,h.cell hg ht,rest⟩
theorem aT.blk (h:aT T n₁ A B) {b:Nat} {c:Array Value} {t:TypeId} (hb:au A b t c) (ht:t≠T):au B b t c:=h.cell hb ht
end
structure kR (T:TypeId) (A B:World):Prop where
 size:A.heap.size<=B.heap.size
 same: ∀(k:Nat) (c:Array Value) (fz:Nat×Nat),A.heap[k]?=some (Obj.cells c T fz)->B.heap[k]?=some (Obj.cells c T fz)
theorem kR.trans {T:TypeId} {A B C:World} (h:kR T A B) (k:kR T B C):kR T A C:=⟨adg h.size k.size,fun i c fz hi=>k.same i c fz (h.same i c fz hi)⟩
theorem kR.Ad {T:TypeId} {A B:World} {row:Option Nat} (h:A.grownBy B row) (hr: ∀g c fz,row=some g->A.heap[g]?≠some (.cells c T fz)):kR T A B:=
 ⟨h.size,fun k c fz hk=>(h.block k (adZ.1 hk).1 (fun e=>hr k c fz e.symm hk)).trans hk⟩
theorem kR.blk {T:TypeId} {A B:World} (h:kR T A B) {b:Nat} {c:Array Value} (hb:au A b T c):au B b T c:=h.same b c _ hb
def Pj {α:Type} (P:Program) (T n₁ gf:Nat) (lb:Array Value) (encs:α->Array Value) (Pre:α->World->World->Prop) (Step:List α->α->Prop) (End:List α->Prop) (FU:World->Prop) (W1:World):Prop:=
 ∀(l:Nat) (J:List α->World->Prop) (Fin:World->Prop),(∀pre W,J pre W->FU W)->
  (∀pre A B,J pre A->aT T W1.heap.size A B->J pre B)->
  (∀pre x W0 W,J pre W0->aT T W1.heap.size W0 W->Pre x W0 W->Step pre x->YieldAt Fence.wide 7 P l (encs x) W fun e W'=>
   (e=.returned (.bool true)/\J (pre++[x]) W'/\kR T W W')\/(e=.returned (.bool false)/\Fin W'))->
  (∀pre W,J pre W->End pre->Fin W)->
  J [] W1->
  CallsIn Fence.wide 8 P gf (#[.func (.yield l) #[] #[]]++lb) W1 fun e W'=>(∃v,e=.returned v)/\Fin W'
def aad {α:Type} (B:Nat) (T:TypeId) (I:List α->World->Prop) (Ix:Code->World->Prop) (xs:List α) (W:World):Exit->Act->World->Prop
 |.normal,_,W'=>KeepsFrom B W W'/\kR T W W'/\I xs W'
 |.ret,_,W'=>KeepsFrom B W W'/\Ix .ret W'
 |.exit id,_,W'=>KeepsFrom B W W'/\Ix (.exit id) W'
 |.goto t,_,W'=>KeepsFrom B W W'/\Ix (.goto t) W'
 |.panic _,_,_=>False
 |.outgrown,_,_=>False
theorem ai0 {α:Type} {P:Program} (T:TypeId) {g:Operand} {ps:Array Tmp} {assign body:Code} {Q:Exit->Act->World->Prop} {a:Act} {w:World}
  {gf:Nat} {lb:Array Value} (hg:a.eval g=.func (.func gf) #[] lb) (eg: ∀args w,(callFunc gf args).run P w=.ok (.enter gf args) w)
  {encs:α->Array Value} (hps: ∀x,(encs x).size=ps.size) {Pre:α->World->World->Prop} {Step:List α->α->Prop} {End:List α->Prop} {FU:World->Prop}
  (La: ∀x W0 W l r r',Pre x W0 W->W.heap[l]?=some (.loop r)->Pre x W0 (W.putObj l (.loop r')))
  (hiter: ∀W1,Below w.heap.size w W1->w.heap.size<=W1.heap.size->Pj P T w.heap.size gf lb encs Pre Step End FU W1)
  (I:List α->World->Prop) (Ix:Code->World->Prop) (hI: ∀pre A B,I pre A->aT T w.heap.size A B->I pre B) (hIx: ∀c A B,Ix c A->aT T w.heap.size A B->Ix c B) (hAux: ∀pre W,I pre W->FU W) (h0:I [] w)
  (a₁:α->Act)
  (hassign: ∀(l:Nat) (x:α) (W:World) (K:Act->World->Prop),K (a₁ x) W->
   assign.wpIn (Fence.wide.inRound l) 7 P (Exit.then K (fun _ _ _=>False)) {tmps:=(ps.zip (encs x)).foldl (fun t (p,v)=>t.setIfInBounds p v) a.tmps,defers:=[]} W)
  (hbody: ∀(l:Nat) (pre:List α) (x:α) (W0 W:World),I pre W0->aT T w.heap.size W0 W->Pre x W0 W->Step pre x->w.heap.size<=l->w.heap.size<=W0.heap.size->
   body.wpIn (Fence.wide.inRound l) 7 P (aad w.heap.size T I Ix (pre++[x]) W) (a₁ x) W)
  (hdone: ∀(D:Nat) (xs:List α) (W:World),w.heap.size<=D->End xs->I xs W->W.heap[D]?=some (.deferred (some []))->Q .normal {a with defers:={target:=.collected D,args:= #[]} :: a.defers} W)
  (hstop: ∀(D:Nat) (c:Code) (W:World),w.heap.size<=D->Ix c W->W.heap[D]?=some (.deferred (some []))->c.wpIn Fence.wide 9 P Q {a with defers:={target:=.collected D,args:= #[]} :: a.defers} W):
  (Code.rangeFunc g ps assign body).wpIn Fence.wide 9 P Q a w:=by
 refine wpIn_rangeFunc ?_;intro fn hfn;have hro:Fence.wide.round=none:=rfl;rw[hro]
 obtain⟨rec,hrec⟩: ∃rec:LoopState->Option Code->Loop,rec=fun st pe=>{state:=st,pending:=pe,fn,tmps:=a.tmps,params:=ps,assign,body,defers:=w.heap.size}:=⟨_,rfl⟩
 obtain⟨W1,hW1⟩:=aj ((w.alloc (.deferred (some []))).alloc (.loop (rec .ready none)))
 have hL1:W1.heap[w.heap.size+1]?=some (.loop (rec .ready none)):=by
  rw[<-hW1];have:=World.alloc_heap_new (w.alloc (.deferred (some []))) (.loop (rec .ready none));rwa [World.size_alloc]at this
 have hK1:W1.heap[w.heap.size]?=some (.deferred (some [])):=by
  rw[<-hW1];exact(Below.heap_alloc _ _ _ (by simp)).trans (World.alloc_heap_new w _)
 have hb1:Below w.heap.size w W1:=by
  rw[<-hW1];exact((Below.refl _ w).alloc (ac4 _) _).alloc (by simp) _
 have hs1:W1.heap.size=w.heap.size+2:=by rw[<-hW1];simp
 have hI1:I [] W1:=hI _ _ _ h0 (.of_below hb1)
 have wide: ∀{A B:World},aT T W1.heap.size A B->aT T w.heap.size A B:=fun h=>⟨h.os,h.tape,h.output,h.size,fun k hk hA=>h.low k (by omega) hA,h.block⟩
 refine⟨w.heap.size+1,[{target:=.collected w.heap.size,args:= #[]}],W1,{target:=.fn (.func gf) lb,args:= #[.func (.yield (w.heap.size+1)) #[] #[]]},W1,gf,
  #[.func (.yield (w.heap.size+1)) #[] #[]]++lb,W1, ?_, ?_, ?_, ?_,fun _=>by omega, ?_⟩
 ·rw[<-hW1,hrec];exact run_enterLoop_outer _ _ _ _ _
 ·simp only[resolve,hg]
  simp[go_sem]
 ·intro f' hf';exact trivial
 ·simp[invoke,go_sem,eg]
 have book: ∀{A B:World},aT T W1.heap.size A B->A.heap[w.heap.size+1]?=some (.loop (rec .ready none))->A.heap[w.heap.size]?=some (.deferred (some []))->
   B.heap[w.heap.size+1]?=some (.loop (rec .ready none))/\B.heap[w.heap.size]?=some (.deferred (some [])):=fun h h1 h2=>
  ⟨(h.low _ (by omega) (adZ.1 h1).1).trans h1,(h.low _ (by omega) (adZ.1 h2).1).trans h2⟩
 refine(hiter W1 hb1 (by omega) (w.heap.size+1)
  (fun pre W=>I pre W/\W.heap[w.heap.size+1]?=some (.loop (rec .ready none))/\W.heap[w.heap.size]?=some (.deferred (some [])))
  (fun W=>(∃pre,End pre/\I pre W/\W.heap[w.heap.size+1]?=some (.loop (rec .ready none))/\W.heap[w.heap.size]?=some (.deferred (some [])))\/
   ∃c,Ix c W/\W.heap[w.heap.size+1]?=some (.loop (rec .done (some c)))/\W.heap[w.heap.size]?=some (.deferred (some [])))
  (fun pre W h=>hAux pre W h.1) ?_ ?_ ?_ ⟨hI1,hL1,hK1⟩).mono ?_
 ·rintro pre A B ⟨h1,h2,h3⟩ h
  exact⟨hI _ _ _ h1 (wide h),book h h2 h3⟩
 ·
  rintro pre x W0 W ⟨hi,hl0,hk0⟩ hsame hpre hstep;obtain⟨hl,hk⟩:=book hsame hl0 hk0
  have hlt:w.heap.size+1<W.heap.size:=(adZ.1 hl).1
  have hy:=run_yield (P:=P) (args:=encs x) hl (by rw[hrec];exact hps x)
  rw[hrec]at hy
  refine⟨fn,_,assign,body,hy,roundIn_of_wpIn trivial (hassign _ x W _ ⟨_,run_beginRound hl (by rw[hrec]), ?_⟩)⟩
  have hl2:(W.putObj (w.heap.size+1) (.loop {rec .ready none with state:=.busy})).heap[w.heap.size+1]?=some (.loop {rec .ready none with state:=.busy}):=World.putObj_heap_same hlt
  have hk2:(W.putObj (w.heap.size+1) (.loop {rec .ready none with state:=.busy})).heap[w.heap.size]?=some (.deferred (some [])):=(World.putObj_heap_other (by omega)).trans hk
  have hs2:aT T w.heap.size W (W.putObj (w.heap.size+1) (.loop {rec .ready none with state:=.busy})):=aT.putObj _ hl (by omega)
  refine wpIn_mono (hbody _ pre x W0 _ hi ((wide hsame).trans hs2) (La _ _ _ _ _ _ hpre hl) hstep (by omega) (by have:=(adZ.1 hl0).1;omega)) ?_
  have fin: ∀(jump:Option Code) (W3:World),KeepsFrom w.heap.size (W.putObj (w.heap.size+1) (.loop {rec .ready none with state:=.busy})) W3->
    (Instr.endRound (w.heap.size+1) jump).run P W3=.ok (.bool jump.isNone) (W3.putObj (w.heap.size+1) (.loop (rec (if jump.isNone then .ready else .done) jump)))/\
    W3.heap[w.heap.size+1]?=some (.loop {rec .ready none with state:=.busy})/\
    (W3.putObj (w.heap.size+1) (.loop (rec (if jump.isNone then .ready else .done) jump))).heap[w.heap.size+1]?=some (.loop (rec (if jump.isNone then .ready else .done) jump))/\
    (W3.putObj (w.heap.size+1) (.loop (rec (if jump.isNone then .ready else .done) jump))).heap[w.heap.size]?=some (.deferred (some [])):=fun jump W3 hk3=>by
   have hl3:=hk3.same _ _ (by omega) hl2 rfl
   have:=run_endRound (P:=P) jump hl3;rw[hrec]at this⊢
   exact⟨this,by rw[hrec]at hl3;exact hl3,World.putObj_heap_same (adZ.1 hl3).1,(World.putObj_heap_other (by omega)).trans (hk3.same _ _ (ac4 _) hk2 rfl)⟩
  have Lc: ∀(V:World) (r r':Loop),V.heap[w.heap.size+1]?=some (.loop r)->kR T V (V.putObj (w.heap.size+1) (.loop r')):=fun V r r' h=>
   ⟨by simp[World.putObj],fun k c fz hc=>(World.putObj_heap_other (fun e=>by subst e;rw[h]at hc;cases hc)).trans hc⟩
  rintro e a3 W3 hp;cases e with
  |normal=>
   obtain⟨hk3,hkp3,hi3⟩:=hp;obtain⟨hr,hl3,hl4,hk4⟩:=fin none W3 hk3
   exact⟨_,_,hr,.inl ⟨rfl,⟨hI _ _ _ hi3 (aT.putObj _ hl3 (by omega)),hl4,hk4⟩,(Lc W _ _ hl).trans (hkp3.trans (Lc W3 _ _ hl3))⟩⟩
  |ret=>
   obtain⟨hk3,hi3⟩:=hp;obtain⟨hr,hl3,hl4,hk4⟩:=fin (some .ret) W3 hk3
   exact⟨_,_,hr,.inr ⟨rfl,.inr ⟨.ret,hIx _ _ _ hi3 (aT.putObj _ hl3 (by omega)),hl4,hk4⟩⟩⟩
  |exit id=>
   obtain⟨hk3,hi3⟩:=hp;obtain⟨hr,hl3,hl4,hk4⟩:=fin (some (.exit id)) W3 hk3
   exact⟨_,_,hr,.inr ⟨rfl,.inr ⟨.exit id,hIx _ _ _ hi3 (aT.putObj _ hl3 (by omega)),hl4,hk4⟩⟩⟩
  |goto t=>
   obtain⟨hk3,hi3⟩:=hp;obtain⟨hr,hl3,hl4,hk4⟩:=fin (some (.goto t)) W3 hk3
   exact⟨_,_,hr,.inr ⟨rfl,.inr ⟨.goto t,hIx _ _ _ hi3 (aT.putObj _ hl3 (by omega)),hl4,hk4⟩⟩⟩
  |panic ch=>exact hp.elim
  |outgrown=>exact hp.elim
 ·rintro pre W ⟨h1,h2,h3⟩ hend
  exact .inl ⟨pre,hend,h1,h2,h3⟩
 rintro e W2 ⟨⟨v,rfl⟩,(⟨xs,hend,hi,hl,hk⟩|⟨c,hi,hl,hk⟩)⟩
 ·exact⟨none,_,by have:=run_endLoop (P:=P) hl (by rw[hrec];simp);rw[hrec]at this;exact this,hdone _ xs _ (ac4 _) hend (hI _ _ _ hi (aT.putObj _ hl (by omega))) ((World.putObj_heap_other (by omega)).trans hk)⟩
 exact⟨some c,_,by have:=run_endLoop (P:=P) hl (by rw[hrec];simp);rw[hrec]at this;exact this,hstop _ c _ (ac4 _) (hIx _ _ _ hi (aT.putObj _ hl (by omega))) ((World.putObj_heap_other (by omega)).trans hk)⟩
theorem TR {P:Program} {f:FuncId} {fn:Func} {c:Code} {args:Array Value} {w:World} {R:Ending->World->Prop} (hf:P.funcs[f]?=some fn) (hb:fn.body=some c)
  (h:c.wp P (bodyPostM Fence.wide 9 P fn R) {tmps:=args++Array.replicate (fn.ntmps - args.size) undef,defers:=[]} w):Calls P f args w R:=
 callsIn_wide.1 (callsIn_of_wp_marks (n:=9) hf hb trivial (wpIn_wide.2 h))
theorem JR {V:World} {D b:Nat} {t:TypeId} {c:Array Value} {o:Obj} (hK:V.heap[D]?=some (.deferred (some []))) (h:au V b t c):au (V.putObj D o) b t c:=
 (World.putObj_heap_other (fun e=>by subst e;unfold au at h;rw[hK]at h;cases h)).trans h
theorem ai1 {V:World} {D:Nat} (hK:V.heap[D]?=some (.deferred (some []))): ∀(k:Nat) (c:Array Value) (t:TypeId) (fz:Nat×Nat),V.heap[k]?=some (Obj.cells c t fz)->(V.putObj D (.deferred none)).heap[k]?=some (Obj.cells c t fz):=fun k c t fz h=>
 (World.putObj_heap_other (fun e=>by subst e;rw[hK]at h;cases h)).trans h
theorem aae {V:World} {D base e size n:Nat} {v:Value} {xs:List Value} (hK:V.heap[D]?=some (.deferred (some []))) (h:V.ownsRow base e size v n xs):(V.putObj D (.deferred none)).ownsRow base e size v n xs:=by
 refine⟨h.1, ?_⟩
 rcases h.2 with hn|⟨g,cap,cur,rfl,hb,hg,rest⟩
 ·exact .inl hn
 exact .inr ⟨g,cap,cur,rfl,hb,ai1 hK _ _ _ _ hg,rest⟩
theorem Pm {B:Nat} {A V:World} {D:Nat} {o:Obj} (h:Below B A V) (hD:B<=D):Below B A (V.putObj D o):=
 ⟨h.os,h.tape,h.output,by simpa[World.putObj] using h.size,fun k hk=>(World.putObj_heap_other (by omega)).trans (h.block k hk)⟩
theorem Pn {P:Program} {fn:Func} {tmps:Array Value} {R:Ending->World->Prop} {V:World} {D:Nat} {v:Value} (hK:V.heap[D]?=some (.deferred (some [])))
  (hr:(results fn tmps).run P (V.putObj D (.deferred none))=.ok v (V.putObj D (.deferred none))) (hR:R (.returned v) (V.putObj D (.deferred none))):
  bodyPostM Fence.wide 9 P fn R .ret {tmps:=tmps,defers:=[{target:=.collected D,args:= #[]}]} V:=
 ⟨by simp,.inl ⟨_,_,rfl,run_takeDeferred hK,⟨_,hr,hR⟩⟩⟩
end Go.Proofs.YtkdakckjafomhaaGreatDoor
namespace Go.Proofs.YtkdakckjafomhaaGreatDoor
open Go.RowKit
attribute [local go_sem] Oper.semAt_some
structure jk where
 v:Value
 fs:List ay.F
 e:Nat
def jk.enc (x:jk):Array Value:= #[x.v,.int .i64 x.e]
def jk.Pre (x:jk) (W0 W:World):Prop:=if x.e=0 then W.ownsRow W0.heap.size 9 1 x.v x.fs.length (x.fs.map S) else x.v=.slice none 0 0/\x.fs=[]
def jk.Step (l:ay.F) (pre:List jk) (x:jk):Prop:=
 (∀y∈pre,y.e=0)/\pre.length<=(ay.rowsOf l).1.length/\pre.map (·.fs)=(ay.rowsOf l).1.take pre.length/\
  (if x.e=0 then(ay.rowsOf l).1[pre.length]?=some x.fs else pre.length=(ay.rowsOf l).1.length/\(ay.rowsOf l).2=x.e)
def jk.End (l:ay.F) (pre:List jk):Prop:=
 ((ay.rowsOf l).2=0/\(∀y∈pre,y.e=0)/\pre.map (·.fs)=(ay.rowsOf l).1)\/
 (∃q x,pre=q++[x]/\x.e≠0/\(ay.rowsOf l).2=x.e/\(∀y∈q,y.e=0)/\q.map (·.fs)=(ay.rowsOf l).1)
theorem ai2 (s:ByteArray) (hs:s.size<=16777216) (n₁ Bt:Nat) (hBt:Bt<n₁) (W1:World) (hn:n₁<=W1.heap.size) (hc:W1.cell? ⟨Bt,0,none⟩=some (.string s)):
  Pj Tryz.prog 140 n₁ 72 #[.pointer (some ⟨Bt,0,none⟩)] jk.enc jk.Pre (jk.Step s.data.toList) (jk.End s.data.toList) (fun W=>W.cell? ⟨Bt,0,none⟩=some (.string s)) W1:=by
 intro l J Fin hAux hJ hY Ld h0;refine callsIn_wide.2 ?_;have HX:=ah hAux;clear hAux
 have HJ:=ah hJ;have HY:=ah hY;have HE:=ah Ld;clear hJ hY Ld
 go_enter Tryz.func72,Tryz.ntmps72;go_wp2
 have adD:au (W1.alloc (.cells #[.string s,.int .i64 0] 140)) W1.heap.size 140 #[.string s,.int .i64 ((0:Nat):Int)]:=au.new _ _ _
 have hJ0:J [] (W1.alloc (.cells #[.string s,.int .i64 0] 140)):=HJ.out _ _ _ h0 (.of_below ((Below.refl _ _).alloc (ac4 _) _))
 have hc0:(W1.alloc (.cells #[.string s,.int .i64 0] 140)).cell? ⟨Bt,0,none⟩=some (.string s):=(World.cell?_alloc_lt W1 _ ⟨Bt,0,none⟩ (by simp;omega)).trans hc
 have HB0:=ah adD;have qJ:=ah hc0;have VF:=ah hJ0;clear adD hJ0 hc0 h0
 go_loopg [4] s.size (fun g _ wr=> ∃(at':Nat) (pre:List jk),at'<=s.size/\s.size - at'<=g/\J pre wr/\au wr W1.heap.size 140 #[.string s,.int .i64 at']/\wr.cell? ⟨Bt,0,none⟩=some (.string s)/\
  (∀y∈pre,y.e=0)/\ay.rowsOf s.data.toList=ay.lN (g+1) (pre.map (·.fs)) (s.data.toList.drop at')/\W1.heap.size<=wr.heap.size)
 case atStart=>exact⟨0,[],by omega,by omega,VF.out,HB0.out,qJ.out,by simp,by rw[afA];unfold ay.rowsOf;rw[<-Lib.size_eq];rfl,by simp⟩
 obtain⟨at',pre,hle,hgk,hj,hblk,hcb,hpre,hro,hsz⟩:=hrel;have h0:=hblk.cell 0
 have h1:=hblk.cell 1;simp at h0 h1;have HK:=ah hblk;have zL:=ah hj;have HR:=ah hro
 have HP:=ah hpre;clear hblk hj hro hpre hc;by_cases hlt:at'<s.size
 ·have hd:decide ((at':Int)<s.size)=true:=by simp;omega
  go_wp2
  go_quiet (fail)
  have HCB:Hid ((wr.drewN nq).cell? ⟨Bt,0,none⟩=some (.string s)):=hcb
  have I7:Hid (au (wr.drewN nq) W1.heap.size 140 #[.string s,.int .i64 at']):=HK.out
  have HJ':Hid (J pre (wr.drewN nq)):=HJ.out _ _ _ zL.out ((aT.refl _ _ _).drewN nq)
  have hsz':W1.heap.size<=(wr.drewN nq).heap.size:=hsz;clear hcb h0 h1 HK zL hsz
  generalize wr.drewN nq=W0 at*
  go_wp2_with fail;refine(aiZ W1.heap.size s at' _ I7.out hle hs).mono ?_;rintro e W hres
  obtain⟨hgr,hres⟩:=hres
  have HD:Hid ((s.data.toList.drop at').length=s.size - at'):=by rw[aej,<-Lib.size_eq];exact rfl
  obtain⟨res,hres'⟩:=aj (ay.rowA (s.size - at'+1) [] (s.data.toList.drop at'))
  rw[hres']at hres;have HA:=ah hres';clear hres';obtain⟨code,fs,r⟩:=res;cases code with
  |zero=>
   obtain⟨v,at2,rfl,hown,DR,qg,hblk2⟩:=hres;have HO:=ah hown;have HB2:=ah hblk2
   have HD2:=ah qg;have HG:=ah hgr
   have hne:s.data.toList.drop at'≠ []:=fun e=>by have:=HD.out;rw[e]at this;simp at this;omega
   have hrow:ay.rowsOf s.data.toList=ay.lN gk (pre.map (·.fs)++[fs]) r:=by
    rw[HR.out,ay.aiC hne (by rw[HD.out];exact HA.out)]
   have hpx:pre.map (·.fs)++[fs] <+:(ay.rowsOf s.data.toList).1:=by rw[hrow];exact ay.aiB _ _ _
   have hstep:jk.Step s.data.toList pre ⟨v,fs,0⟩:=by
    have h5:=ay.aiE ((List.prefix_append _ _).trans hpx);have h6:=ay.aiF hpx
    have h7:=hpx.length_le;simp only[adU,adf]at h5 h6 h7
    exact⟨HP.out,by omega,h5.symm,by rw[adk rfl];exact h6⟩
   have hsame:aT 140 W1.heap.size W0 W:=.Ad HG.out I7.out (ac4 _)
   obtain⟨fn,tmps,assign,body,hy,hR⟩:=HY.out pre ⟨v,fs,0⟩ W0 W HJ'.out hsame (by show(if 0=0 then _ else _);rw[adk rfl];exact HO.out) hstep
   have hy':(Instr.yield l #[v,.int .i64 0]).run Tryz.prog W=.ok (.round l fn tmps assign body) W:=hy
   have iJ:=ah hR;have jO:=ah hrow;clear hown hblk2 qg hgr hne hrow hpx hstep hsame hR hy
   go_upto_region 3 with(fail)
   refine(wpIn_wide (n:=8)).1 ?_
   gi_wp2
   refine iJ.mono ?_;rintro e W' (⟨rfl,hj,hk⟩|⟨rfl,hf⟩)
   ·have hdec:r.length<(s.data.toList.drop at').length:=by
     rcases(ay.TP (s.size - at'+1) (s.data.toList.drop at') [] [] (by rw[HD.out];omega) (.inr (fun e=>by have:=HD.out;rw[e]at this;simp at this;omega))).2 (by rw[HA.out]) with h5|⟨h5,_⟩
     ·rw[HA.out]at h5;exact h5
     have:=HD.out;rw[h5]at this;simp at this;omega
    have hlr:r.length=s.size - at2:=by rw[<-HD2.out,aej,<-Lib.size_eq]
    have hdl:=HD.out;rw[hdl,hlr]at hdec;have hgz: ∃g,gk=g+1:=⟨gk - 1,by omega⟩
    have anf:=ah hdec;clear hlr hdl hdec
    gi_wp2
    go_wp2;obtain⟨g,rfl⟩:=hgz
    go_roundg g
    case measure=>omega
    refine⟨at2,pre++[⟨v,fs,0⟩],DR,by have:=anf.out;omega,hj,hk.blk HB2.out,HX.out _ _ hj, ?_, ?_, ?_⟩
    ·intro y hy
     rcases aem.1 hy with h|h
     ·exact HP.out y h
     rw[ael.1 h]
    ·rw[jO.out,HD2.out];simp
    exact adg (adg hsz' HG.size) hk.size
   gi_wp2
   go_wp2;refine bodyPost_ret (results_none rfl _ _ _) rfl ?_;exact⟨⟨_,rfl⟩,hf⟩
  |succ k=>
   obtain rfl:=hres;have HG:=ah hgr;clear hgr
   have hne:s.data.toList.drop at'≠ []:=fun e=>by have:=HD.out;rw[e]at this;simp at this;omega
   have hrow:ay.rowsOf s.data.toList=(pre.map (·.fs),k+1):=by
    rw[HR.out,ay.aiD hne (by rw[HD.out];exact HA.out)]
   have hlen:(ay.rowsOf s.data.toList).1.length=pre.length:=by rw[hrow];simp
   have hstep:jk.Step s.data.toList pre ⟨.slice none 0 0,[],k+1⟩:=by
    refine⟨HP.out,by omega, ?_, ?_⟩
    ·rw[<-hlen,an8,hrow]
    rw[ade (by simp)]
    exact⟨hlen.symm,by rw[hrow]⟩
   have hend:jk.End s.data.toList (pre++[⟨.slice none 0 0,[],k+1⟩]):=
    .inr ⟨pre,_,rfl,by simp,by rw[hrow],HP.out,by rw[hrow]⟩
   have hsame:aT 140 W1.heap.size W0 W:=.Ad HG.out I7.out (ac4 _)
   obtain⟨fn,tmps,assign,body,hy,hR⟩:=HY.out pre ⟨.slice none 0 0,[],k+1⟩ W0 W HJ'.out hsame (by show(if k+1=0 then _ else _);rw[ade (by omega)];exact⟨rfl,rfl⟩) hstep
   have hy':(Instr.yield l #[.slice none 0 0,.int .i64 ((k:Int)+1)]).run Tryz.prog W=.ok (.round l fn tmps assign body) W:=by
    have e:((k+1:Nat):Int)=(k:Int)+1:=by omega
    have:=hy;simp only[jk.enc,e]at this;exact this
   have iJ:=ah hR;have VG:=ah hend;have hk1:(((k:Int)+1) !=0)=true:=by rw[adY];omega
   clear hne hrow hlen hstep hsame hR hy hend
   go_upto_region 3 with(fail)
   refine(wpIn_wide (n:=8)).1 ?_
   gi_wp2
   refine iJ.mono ?_;rintro e W' (⟨rfl,hj,hk⟩|⟨rfl,hf⟩)
   ·gi_wp2
    go_wp2;refine bodyPost_ret (results_none rfl _ _ _) rfl ?_
    exact⟨⟨_,rfl⟩,HE.out _ _ hj VG.out⟩
   gi_wp2
   go_wp2;refine bodyPost_ret (results_none rfl _ _ _) rfl ?_;exact⟨⟨_,rfl⟩,hf⟩
 have hd:decide ((at':Int)<s.size)=false:=by simp;omega
 have hend:jk.End s.data.toList pre:=by
  have e:s.data.toList.drop at'=[]:=aeJ (by have:=Lib.size_eq s;omega)
  have h5:ay.rowsOf s.data.toList=(pre.map (·.fs),0):=by
   rw[HR.out,e,ay.lN,adk rfl]
  exact .inl ⟨by rw[h5],HP.out,by rw[h5]⟩
 have VG:=ah hend;clear hend;go_wp2
 go_quiet (fail)
 go_wp2
 go_end0
 exact⟨⟨_,rfl⟩,HE.out _ _ (HJ.out _ _ _ zL.out ((aT.refl _ _ _).drewN nq)) VG.out⟩
end Go.Proofs.YtkdakckjafomhaaGreatDoor
