/- Contracts and plain laws,part 18. -/
import Derived.Test.YtoofbflplhbpbaaGreatDoorBK17
import Derived.RegionIn
set_option maxHeartbeats 64000000
set_option maxRecDepth 1000000
set_option linter.all false
namespace Go.Proofs.YtoofbflplhbpbaaGreatDoor
open Go.RowKit
attribute [local go_sem] Oper.semAt_some
def tokA (t:Lex.Tok):Value:= .agg #[.int .i64 (t.kind:Int), .string ⟨t.text.toArray⟩, .int .i64 t.num, .int .i64 (t.pos:Int)]
abbrev LY:=Lex.Tok×Nat
def uS (x:LY):Array Value:= #[tokA x.1, .int .i64 (x.2:Int)]
namespace Lex
def items (x:List Tok×Option (Nat×Nat)):List LY:=
 x.1.map (fun t=>(t,0)) ++ match x.2 with
  | none=> []
  | some (p,e)=> [(⟨0, [],0,p⟩,e)]
theorem KP:items ([],none)= []:=rfl
theorem KQ (t:Tok) (x:List Tok×Option (Nat×Nat)):items (t :: x.1,x.2)=(t,0) :: items x:=rfl
end Lex
def qE (l:List UInt8) (pre:List LY) (x:LY):Prop:=pre ++ [x] <+: Lex.items (Lex.read l)
def uT (l:List UInt8) (pre:List LY):Prop:=pre=Lex.items (Lex.read l)
theorem KR (s:ByteArray) (hs:s.size≤1073741823) (n₁ Bt:Nat) (hBt:Bt<n₁) (W1:World) (hn:n₁≤W1.heap.size):
  uP Tryz.prog 207 n₁ 141 #[.pointer (some ⟨Bt,0,none⟩)] uS (fun _ _ _=>True) (qE s.data.toList) (uT s.data.toList) (fun W=>W.cell? ⟨Bt,0,none⟩=some (.string s)∧Laid W) W1:=by
 intro l J Fin hAux hJ hY hEnd h0
 refine callsIn_wide.2 ?_
 have HX:=hq7 hAux
 have HJ:=hq7 hJ
 have HY:=hq7 hY
 have HE:=hq7 hEnd
 have hc:=(hAux _ _ h0).1
 have HJ0:=hq7 h0
 clear hJ hY hEnd hAux h0
 by_cases hbig:16777216<s.size
 ·have hd:decide (16777216<s.size)=true:=decide_eq_true hbig
  have hd':decide ((16777216:Int)<s.size)=true:=decide_eq_true (by omega)
  have hit:Lex.items (Lex.read s.data.toList)= [(⟨0, [],0,0⟩,1)]:=by
   unfold Lex.read
   rw [if_pos (by rw [←Lib.size_eq];exact hbig)]
   rfl
  obtain ⟨fn,tmps,assign,body,hy,hR⟩:=HY.out [] (⟨0, [],0,0⟩,1) W1 W1 HJ0.out (Same1.refl _ _ _) trivial (by unfold qE;rw [hit];exact List.prefix_refl _)
  have hy':(Instr.yield l #[.agg #[.int .i64 0, .string ⟨#[]⟩, .int .i64 0, .int .i64 0], .int .i64 1]).run Tryz.prog W1= .ok (.round l fn tmps assign body) W1:=hy
  have HRD:=hq7 hR
  have HIT:=hq7 hit
  clear hit hR hy
  go_enter Tryz.func141,Tryz.ntmps141
  go_upto_region 1 with (fail)
  refine (wpIn_wide (n:=8)).1 ?_
  gi_wp2
  refine HRD.out.mono ?_
  rintro e W' (⟨rfl,hj,hk⟩ |⟨rfl,hf⟩)
  ·gi_wp2
   go_wp2
   refine bodyPost_ret (results_none rfl _ _ _) rfl ?_
   exact ⟨⟨_,rfl⟩,HE.out _ _ hj HIT.out.symm⟩
  ·gi_wp2
   go_wp2
   refine bodyPost_ret (results_none rfl _ _ _) rfl ?_
   exact ⟨⟨_,rfl⟩,hf⟩
 ·have hd:decide (16777216<s.size)=false:=decide_eq_false hbig
  have hd':decide ((16777216:Int)<s.size)=false:=decide_eq_false (by omega)
  have hsm:s.size≤16777216:=by omega
  have hrd:Lex.read s.data.toList=Lex.scan (s.size+1) (s.data.toList.drop (Lex.gap false s.data.toList)) (Lex.gap false s.data.toList):=by
   unfold Lex.read
   rw [if_neg (by rw [←Lib.size_eq];exact hbig)]
   unfold Lex.body
   rw [←Lib.size_eq,Nat.zero_add]
  have hsk:=fun (i:Nat) (hi:i≤s.size) (W:World)=>IQ s i W (by omega) hi
  have hgl:=Lex.mV false s.data.toList
  rw [←Lib.size_eq] at hgl
  have hs0:=hsk 0 (by omega)
  rw [List.drop_zero,Nat.zero_add] at hs0
  obtain ⟨a0,ha0⟩: ∃a,Lex.gap false s.data.toList=a:=⟨_,rfl⟩
  rw [ha0] at hs0 hgl hrd
  have HS0:=hq7 (show∀W:World,Calls Tryz.prog 142 #[.string s, .int .i64 0] W fun e w'=>e= .returned (.int .i64 (a0:Int))∧W=w' from hs0)
  have HSK:=hq7 hsk
  have HRD0:=hq7 hrd
  clear hsk hs0 hrd ha0 hbig
  go_enter Tryz.func141,Tryz.ntmps141
  go_wp2_with fail
  refine (HS0.out _).mono ?_
  rintro e w' ⟨rfl,rfl⟩
  go_wp2_with fail
  go_loopg [3] s.size (fun g x wr=> ∃(k:Nat) (pre:List LY),x= .int .i64 k∧k≤s.size∧s.size - k≤g∧J pre wr∧Lex.items (Lex.read s.data.toList)=pre ++ Lex.items (Lex.scan (g+1) (s.data.toList.drop k) k)∧W1.heap.size≤wr.heap.size)
  case atStart=>exact ⟨a0, [],rfl,hgl,by omega,HJ0.out,by rw [HRD0.out];rfl,Nat.le_refl _⟩
  case round=>
   obtain ⟨k,pre,rfl,hle,hgk,hj,hit,hsz⟩:=hrel
   obtain ⟨hcb,hlaid⟩:=HX.out _ _ hj
   have HJR:=hq7 hj
   have HI:=hq7 hit
   have HL:=hq7 hlaid
   have hki:(k:Int)≤16777216:=by omega
   clear hj hit hlaid hc
   by_cases hlt:k<s.size
   ·have hlti:(k:Int)<s.size:=by omega
    have t1:decide (k<s.size)=true:=decide_eq_true hlt
    have hnx:=next_any s k wr hs hlt HL.out
    have hne:s.data.toList.drop k≠ []:=by
     rw [iQ hlt]
     simp
    obtain ⟨R,hR⟩: ∃R,Lex.tok1 (s.data.toList.drop k)=R:=⟨_,rfl⟩
    rw [hR] at hnx
    obtain ⟨g,rfl⟩: ∃g,gk=g+1:=⟨gk - 1,by omega⟩
    have hu:=eu
    cases R with
    | tok kd tx nm n=>
     have hbd:=Lex.mW hR
     rw [List.length_drop,←Lib.size_eq] at hbd
     have hsc:=Lex.jE (k:=g+1) (i:=k) hR rfl
     obtain ⟨m,hm⟩: ∃m,k+n=m:=⟨_,rfl⟩
     obtain ⟨K',hK'⟩: ∃K',m+Lex.gap false (s.data.toList.drop m)=K':=⟨_,rfl⟩
     have hmle:m≤s.size:=by omega
     have hKm:m≤K':=by omega
     have hKle:K'≤s.size:=by
      have:=Lex.mV false (s.data.toList.drop m)
      rw [List.length_drop,←Lib.size_eq] at this
      omega
     have hit2:Lex.items (Lex.read s.data.toList)=(pre ++ [(⟨kd,tx,nm,k⟩,0)]) ++ Lex.items (Lex.scan (g+1) (s.data.toList.drop K') K'):=by
      rw [HI.out,hsc,Lex.KQ,List.drop_drop,List.drop_drop,hm,show k+(n+Lex.gap false (s.data.toList.drop m))=K' by omega,hK',List.append_assoc]
      rfl
     have hskm:=HSK.out m hmle
     rw [hK'] at hskm
     have hnx':Calls Tryz.prog 143 #[.string s, .int .i64 k] wr fun e w'=>e= .returned (.agg #[.int .i64 (kd:Int), .string ⟨tx.toArray⟩, .int .i64 nm, .int .i64 (k:Int), .int .i64 (m:Int), .int .i64 0])∧Below wr.heap.size wr w':=by
      rw [←hm]
      exact hnx
     have HNX:=hq7 hnx'
     have HI2:=hq7 hit2
     have HSM:=hq7 hskm
     have hm1:k<m:=by omega
     clear hnx hnx' hR hbd hsc hm hK' hit2 hskm hne
     go_wp2_with fail
     refine HNX.out.mono ?_
     rintro e w2 ⟨rfl,hb⟩
     have hbtl:=mY hcb
     have hcb2:w2.cell? ⟨Bt,0,none⟩=some (.string s):=(hb.cell hbtl).trans hcb
     have hz2:=hb.size
     have hsame:=hq7 ((Same1.of_below (T:=207) (n₁:=W1.heap.size) hb).alloc (.cells #[.int .i64 kd, .string ⟨tx.toArray⟩, .int .i64 nm, .int .i64 k, .int .i64 m, .int .i64 0] 207))
     have hblk:=hq7 (Blk.new w2 207 #[.int .i64 kd, .string ⟨tx.toArray⟩, .int .i64 nm, .int .i64 k, .int .i64 m, .int .i64 0])
     obtain ⟨fn,tmps,assign,body,hy,hR⟩:=HY.out pre (⟨kd,tx,nm,k⟩,0) wr (w2.alloc (.cells #[.int .i64 kd, .string ⟨tx.toArray⟩, .int .i64 nm, .int .i64 k, .int .i64 m, .int .i64 0] 207)) HJR.out hsame.out trivial (by unfold qE;rw [HI2.out];exact List.prefix_append _ _)
     have hy':(Instr.yield l #[.agg #[.int .i64 kd, .string ⟨tx.toArray⟩, .int .i64 nm, .int .i64 k], .int .i64 0]).run Tryz.prog (w2.alloc (.cells #[.int .i64 kd, .string ⟨tx.toArray⟩, .int .i64 nm, .int .i64 k, .int .i64 m, .int .i64 0] 207))= .ok (.round l fn tmps assign body) (w2.alloc (.cells #[.int .i64 kd, .string ⟨tx.toArray⟩, .int .i64 nm, .int .i64 k, .int .i64 m, .int .i64 0] 207)):=hy
     have HRD:=hq7 hR
     clear hy hR hb
     go_upto_region 5 with (fail)
     refine (wpIn_wide (n:=8)).1 ?_
     gi_wp2
     refine HRD.out.mono ?_
     rintro e W' (⟨rfl,hj,hk⟩ |⟨rfl,hf⟩)
     ·have hbk:=hk.blk hblk.out
      obtain ⟨g0,g1,g2,g3,g4,g5,f0,f1,f2,f3,f4,f5⟩:=dF hbk
      have hcw:=(HX.out _ _ hj).1
      have HJW:=hq7 hj
      have hzw:=hk.size
      rw [World.size_alloc] at hzw
      clear hk hbk hj
      gi_wp2
      go_wp2_with fail
      refine (HSM.out _).mono ?_
      rintro e w3 ⟨rfl,rfl⟩
      go_wp2
      go_roundg g
      case measure=>omega
      case rel=>exact ⟨K',_,rfl,hKle,by omega,HJW.out,HI2.out,by omega⟩
     ·gi_wp2
      go_wp2
      refine bodyPost_ret (results_none rfl _ _ _) rfl ?_
      exact ⟨⟨_,rfl⟩,hf⟩
    | err o e=>
     obtain ⟨he,ho⟩:=Lex.sD hne hR
     have hsc:=Lex.jU (k:=g+1) (i:=k) hne hR
     obtain ⟨m,hm⟩: ∃m,k+o=m:=⟨_,rfl⟩
     have hit2:Lex.items (Lex.read s.data.toList)=pre ++ [(⟨0, [],0,m⟩,e)]:=by
      rw [HI.out,hsc,hm]
      rfl
     have hnx':Calls Tryz.prog 143 #[.string s, .int .i64 k] wr fun e' w'=>e'= .returned (.agg #[.int .i64 0, .string ⟨#[]⟩, .int .i64 0, .int .i64 (m:Int), .int .i64 0, .int .i64 (e:Int)])∧Below wr.heap.size wr w':=by
      rw [←hm]
      exact hnx
     have HNX:=hq7 hnx'
     have HI2:=hq7 hit2
     have hen:((e:Int) !=0)=true:=by rw [bne_iff_ne];omega
     clear hnx hnx' hR hsc hm hit2 hne ho
     go_wp2_with fail
     refine HNX.out.mono ?_
     rintro e' w2 ⟨rfl,hb⟩
     have hbtl:=mY hcb
     have hcb2:w2.cell? ⟨Bt,0,none⟩=some (.string s):=(hb.cell hbtl).trans hcb
     have hz2:=hb.size
     have hsame:=hq7 ((Same1.of_below (T:=207) (n₁:=W1.heap.size) hb).alloc (.cells #[.int .i64 0, .string ⟨#[]⟩, .int .i64 0, .int .i64 m, .int .i64 0, .int .i64 e] 207))
     have hblk:=hq7 (Blk.new w2 207 #[.int .i64 0, .string ⟨#[]⟩, .int .i64 0, .int .i64 m, .int .i64 0, .int .i64 e])
     obtain ⟨fn,tmps,assign,body,hy,hR⟩:=HY.out pre (⟨0, [],0,m⟩,e) wr (w2.alloc (.cells #[.int .i64 0, .string ⟨#[]⟩, .int .i64 0, .int .i64 m, .int .i64 0, .int .i64 e] 207)) HJR.out hsame.out trivial (by unfold qE;rw [HI2.out];exact List.prefix_refl _)
     have hy':(Instr.yield l #[.agg #[.int .i64 0, .string ⟨#[]⟩, .int .i64 0, .int .i64 m], .int .i64 e]).run Tryz.prog (w2.alloc (.cells #[.int .i64 0, .string ⟨#[]⟩, .int .i64 0, .int .i64 m, .int .i64 0, .int .i64 e] 207))= .ok (.round l fn tmps assign body) (w2.alloc (.cells #[.int .i64 0, .string ⟨#[]⟩, .int .i64 0, .int .i64 m, .int .i64 0, .int .i64 e] 207)):=hy
     have HRD:=hq7 hR
     clear hy hR hb
     go_upto_region 5 with (fail)
     refine (wpIn_wide (n:=8)).1 ?_
     gi_wp2
     refine HRD.out.mono ?_
     rintro e' W' (⟨rfl,hj,hk⟩ |⟨rfl,hf⟩)
     ·have hbk:=hk.blk hblk.out
      obtain ⟨g0,g1,g2,g3,g4,g5,f0,f1,f2,f3,f4,f5⟩:=dF hbk
      have HJW:=hq7 hj
      clear hk hbk hj
      gi_wp2
      go_wp2
      refine bodyPost_ret (results_none rfl _ _ _) rfl ?_
      exact ⟨⟨_,rfl⟩,HE.out _ _ HJW.out HI2.out.symm⟩
     ·gi_wp2
      go_wp2
      refine bodyPost_ret (results_none rfl _ _ _) rfl ?_
      exact ⟨⟨_,rfl⟩,hf⟩
   ·have t1:decide (k<s.size)=false:=decide_eq_false hlt
    have hend:uT s.data.toList pre:=by
     unfold uT
     rw [HI.out,kX (by omega),Lex.oW,Lex.KP,List.append_nil]
    have HEND:=hq7 hend
    clear hend
    go_wp2
    go_end0
    exact ⟨⟨_,rfl⟩,HE.out _ _ HJR.out HEND.out⟩
end Go.Proofs.YtoofbflplhbpbaaGreatDoor
namespace Go.Proofs.YtoofbflplhbpbaaGreatDoor
open Go.RowKit
theorem dI.of_below {T:TypeId} {A B:World} (h:Below A.heap.size A B):dI T A B:=
 ⟨h.size,fun k c fz hk=>(h.block k (Array.getElem?_eq_some_iff.1 hk).1).trans hk⟩
theorem uU {α:Type} {P:Program} (T:TypeId) {g:Operand} {ps:Array Tmp} {assign body:Code} {Q:Exit→Act→World→Prop} {a:Act} {w:World}
  {gf:Nat} {lb:Array Value} (hg:a.eval g= .func (.func gf) #[] lb) (eg: ∀args w,(callFunc gf args).run P w= .ok (.enter gf args) w)
  {encs:α→Array Value} (hps: ∀x,(encs x).size=ps.size) {Pre:α→World→World→Prop} {Step:List α→α→Prop} {End:List α→Prop} {Aux:World→Prop}
  (a₁:α→World→Act) (w₁:α→World→World) (hw₁: ∀x W,Below W.heap.size W (w₁ x W))
  (hPre: ∀x W0 W l r r',Pre x W0 W→(w₁ x W).heap[l]?=some (.loop r)→Pre x W0 ((w₁ x W).putObj l (.loop r')))
  (hiter: ∀W1,Below w.heap.size w W1→w.heap.size≤W1.heap.size→uP P T w.heap.size gf lb encs Pre Step End Aux W1)
  (I:List α→World→Prop) (Ix:Code→World→Prop) (hI: ∀pre A B,I pre A→Same1 T w.heap.size A B→I pre B) (hIx: ∀c A B,Ix c A→Same1 T w.heap.size A B→Ix c B) (hAux: ∀pre W,I pre W→Aux W) (h0:I [] w)
  (hassign: ∀(l:Nat) (x:α) (W:World) (K:Act→World→Prop),K (a₁ x W) (w₁ x W)→
   assign.wpIn (Fence.wide.inRound l) 7 P (Exit.then K (fun _ _ _=>False)) {tmps:=(ps.zip (encs x)).foldl (fun t (p,v)=>t.setIfInBounds p v) a.tmps,defers:= []} W)
  (hbody: ∀(l:Nat) (pre:List α) (x:α) (W0 Wa W:World),I pre W0→Same1 T w.heap.size W0 Wa→Same1 T w.heap.size Wa W→(∀(b:Nat) (t:TypeId) (c:Array Value),Blk (w₁ x Wa) b t c→Blk W b t c)→W.heap.size=(w₁ x Wa).heap.size→Pre x W0 W→Step pre x→w.heap.size≤l→w.heap.size≤W0.heap.size→
   body.wpIn (Fence.wide.inRound l) 7 P (KN w.heap.size T I Ix (pre ++ [x]) W) (a₁ x Wa) W)
  (hdone: ∀(D:Nat) (xs:List α) (W:World),w.heap.size≤D→End xs→I xs W→W.heap[D]?=some (.deferred (some []))→Q .normal {a with defers:={target:= .collected D,args:= #[]} :: a.defers} W)
  (hstop: ∀(D:Nat) (c:Code) (W:World),w.heap.size≤D→Ix c W→W.heap[D]?=some (.deferred (some []))→c.wpIn Fence.wide 9 P Q {a with defers:={target:= .collected D,args:= #[]} :: a.defers} W):
  (Code.rangeFunc g ps assign body).wpIn Fence.wide 9 P Q a w:=by
 refine wpIn_rangeFunc ?_
 intro fn hfn
 have hro:Fence.wide.round=none:=rfl
 rw [hro]
 obtain ⟨rec,hrec⟩: ∃rec:LoopState→Option Code→Loop,rec=fun st pe=>{state:=st,pending:=pe,fn,tmps:=a.tmps,params:=ps,assign,body,defers:=w.heap.size}:=⟨_,rfl⟩
 obtain ⟨W1,hW1⟩: ∃W1,(w.alloc (.deferred (some []))).alloc (.loop (rec .ready none))=W1:=⟨_,rfl⟩
 have hL1:W1.heap[w.heap.size+1]?=some (.loop (rec .ready none)):=by
  rw [←hW1];have:=World.alloc_heap_new (w.alloc (.deferred (some []))) (.loop (rec .ready none));rwa [World.size_alloc] at this
 have hK1:W1.heap[w.heap.size]?=some (.deferred (some [])):=by
  rw [←hW1];exact (Below.heap_alloc _ _ _ (by simp)).trans (World.alloc_heap_new w _)
 have hb1:Below w.heap.size w W1:=by
  rw [←hW1];exact ((Below.refl _ w).alloc (Nat.le_refl _) _).alloc (by simp) _
 have hs1:W1.heap.size=w.heap.size+2:=by rw [←hW1];simp
 have hI1:I [] W1:=hI _ _ _ h0 (.of_below hb1)
 have wide: ∀{A B:World},Same1 T W1.heap.size A B→Same1 T w.heap.size A B:=fun h=>⟨h.os,h.tape,h.output,h.size,fun k hk hA=>h.low k (by omega) hA,h.block⟩
 refine ⟨w.heap.size+1, [{target:= .collected w.heap.size,args:= #[]}],W1,{target:= .fn (.func gf) lb,args:= #[.func (.yield (w.heap.size+1)) #[] #[]]},W1,gf,
  #[.func (.yield (w.heap.size+1)) #[] #[]] ++ lb,W1, ?_, ?_, ?_, ?_,fun _=>by omega, ?_⟩
 ·rw [←hW1,hrec];exact run_enterLoop_outer _ _ _ _ _
 ·simp only [resolve,hg]
  simp [go_sem]
 ·intro f' hf';exact trivial
 ·simp [invoke,go_sem,eg]
 ·
  have book: ∀{A B:World},Same1 T W1.heap.size A B→A.heap[w.heap.size+1]?=some (.loop (rec .ready none))→A.heap[w.heap.size]?=some (.deferred (some []))→
    B.heap[w.heap.size+1]?=some (.loop (rec .ready none))∧B.heap[w.heap.size]?=some (.deferred (some [])):=fun h h1 h2=>
   ⟨(h.low _ (by omega) (Array.getElem?_eq_some_iff.1 h1).1).trans h1,(h.low _ (by omega) (Array.getElem?_eq_some_iff.1 h2).1).trans h2⟩
  refine (hiter W1 hb1 (by omega) (w.heap.size+1)
   (fun pre W=>I pre W∧W.heap[w.heap.size+1]?=some (.loop (rec .ready none))∧W.heap[w.heap.size]?=some (.deferred (some [])))
   (fun W=>(∃pre,End pre∧I pre W∧W.heap[w.heap.size+1]?=some (.loop (rec .ready none))∧W.heap[w.heap.size]?=some (.deferred (some [])))∨
    ∃c,Ix c W∧W.heap[w.heap.size+1]?=some (.loop (rec .done (some c)))∧W.heap[w.heap.size]?=some (.deferred (some [])))
   (fun pre W h=>hAux pre W h.1) ?_ ?_ ?_ ⟨hI1,hL1,hK1⟩).mono ?_
  ·rintro pre A B ⟨h1,h2,h3⟩ h
   exact ⟨hI _ _ _ h1 (wide h),book h h2 h3⟩
  ·
   rintro pre x W0 W ⟨hi,hl0,hk0⟩ hsame hpre hstep
   obtain ⟨hl,hk⟩:=book hsame hl0 hk0
   have hlt:w.heap.size+1<W.heap.size:=(Array.getElem?_eq_some_iff.1 hl).1
   have hy:=run_yield (P:=P) (args:=encs x) hl (by rw [hrec];exact hps x)
   rw [hrec] at hy
   have hbA:=hw₁ x W
   obtain ⟨WA,hWA⟩: ∃WA,w₁ x W=WA:=⟨_,rfl⟩
   rw [hWA] at hbA
   have hl':WA.heap[w.heap.size+1]?=some (.loop (rec .ready none)):=(hbA.block _ hlt).trans hl
   have hk':WA.heap[w.heap.size]?=some (.deferred (some [])):=(hbA.block _ (by omega)).trans hk
   have hltA:w.heap.size+1<WA.heap.size:=Nat.lt_of_lt_of_le hlt hbA.size
   refine ⟨fn,_,assign,body,hy,roundIn_of_wpIn trivial (hassign _ x W _ ?_)⟩
   rw [hWA]
   refine ⟨_,run_beginRound hl' (by rw [hrec]), ?_⟩
   have hl2:(WA.putObj (w.heap.size+1) (.loop {rec .ready none with state:= .busy})).heap[w.heap.size+1]?=some (.loop {rec .ready none with state:= .busy}):=World.putObj_heap_same hltA
   have hk2:(WA.putObj (w.heap.size+1) (.loop {rec .ready none with state:= .busy})).heap[w.heap.size]?=some (.deferred (some [])):=(World.putObj_heap_other (by omega)).trans hk'
   have hs2:Same1 T w.heap.size W (WA.putObj (w.heap.size+1) (.loop {rec .ready none with state:= .busy})):=(Same1.of_below hbA).trans (Same1.putObj _ hl' (by omega))
   have hblk: ∀(b:Nat) (t:TypeId) (c:Array Value),Blk (w₁ x W) b t c→Blk (WA.putObj (w.heap.size+1) (.loop {rec .ready none with state:= .busy})) b t c:=fun b t c h=>by
    rw [hWA] at h
    exact (World.putObj_heap_other (fun e=>by subst e;unfold Blk at h;rw [hl'] at h;cases h)).trans h
   refine wpIn_mono (hbody _ pre x W0 W _ hi (wide hsame) hs2 hblk (by rw [hWA];simp [World.putObj]) (by have:=hPre x W0 W (w.heap.size+1) _ {rec .ready none with state:= .busy} hpre (by rw [hWA];exact hl');rw [hWA] at this;exact this) hstep (by omega) (by have:=(Array.getElem?_eq_some_iff.1 hl0).1;omega)) ?_
   have fin: ∀(jump:Option Code) (W3:World),KeepsFrom w.heap.size (WA.putObj (w.heap.size+1) (.loop {rec .ready none with state:= .busy})) W3→
     (Instr.endRound (w.heap.size+1) jump).run P W3= .ok (.bool jump.isNone) (W3.putObj (w.heap.size+1) (.loop (rec (if jump.isNone then .ready else .done) jump)))∧
     W3.heap[w.heap.size+1]?=some (.loop {rec .ready none with state:= .busy})∧
     (W3.putObj (w.heap.size+1) (.loop (rec (if jump.isNone then .ready else .done) jump))).heap[w.heap.size+1]?=some (.loop (rec (if jump.isNone then .ready else .done) jump))∧
     (W3.putObj (w.heap.size+1) (.loop (rec (if jump.isNone then .ready else .done) jump))).heap[w.heap.size]?=some (.deferred (some [])):=fun jump W3 hk3=>by
    have hl3:=hk3.same _ _ (by omega) hl2 rfl
    have:=run_endRound (P:=P) jump hl3
    rw [hrec] at this⊢
    exact ⟨this,by rw [hrec] at hl3;exact hl3,World.putObj_heap_same (Array.getElem?_eq_some_iff.1 hl3).1,(World.putObj_heap_other (by omega)).trans (hk3.same _ _ (Nat.le_refl _) hk2 rfl)⟩
   have putT: ∀(V:World) (r r':Loop),V.heap[w.heap.size+1]?=some (.loop r)→dI T V (V.putObj (w.heap.size+1) (.loop r')):=fun V r r' h=>
    ⟨by simp [World.putObj],fun k c fz hc=>(World.putObj_heap_other (fun e=>by subst e;rw [h] at hc;cases hc)).trans hc⟩
   rintro e a3 W3 hp
   cases e with
   | normal=>
    obtain ⟨hk3,hkp3,hi3⟩:=hp
    obtain ⟨hr,hl3,hl4,hk4⟩:=fin none W3 hk3
    exact ⟨_,_,hr, .inl ⟨rfl,⟨hI _ _ _ hi3 (Same1.putObj _ hl3 (by omega)),hl4,hk4⟩,(dI.of_below hbA).trans ((putT WA _ _ hl').trans (hkp3.trans (putT W3 _ _ hl3)))⟩⟩
   | ret=>
    obtain ⟨hk3,hi3⟩:=hp
    obtain ⟨hr,hl3,hl4,hk4⟩:=fin (some .ret) W3 hk3
    exact ⟨_,_,hr, .inr ⟨rfl, .inr ⟨.ret,hIx _ _ _ hi3 (Same1.putObj _ hl3 (by omega)),hl4,hk4⟩⟩⟩
   | exit id=>
    obtain ⟨hk3,hi3⟩:=hp
    obtain ⟨hr,hl3,hl4,hk4⟩:=fin (some (.exit id)) W3 hk3
    exact ⟨_,_,hr, .inr ⟨rfl, .inr ⟨.exit id,hIx _ _ _ hi3 (Same1.putObj _ hl3 (by omega)),hl4,hk4⟩⟩⟩
   | goto t=>
    obtain ⟨hk3,hi3⟩:=hp
    obtain ⟨hr,hl3,hl4,hk4⟩:=fin (some (.goto t)) W3 hk3
    exact ⟨_,_,hr, .inr ⟨rfl, .inr ⟨.goto t,hIx _ _ _ hi3 (Same1.putObj _ hl3 (by omega)),hl4,hk4⟩⟩⟩
   | panic ch=>exact hp.elim
   | outgrown=>exact hp.elim
  ·rintro pre W ⟨h1,h2,h3⟩ hend
   exact .inl ⟨pre,hend,h1,h2,h3⟩
  ·
   rintro e W2 ⟨⟨v,rfl⟩,(⟨xs,hend,hi,hl,hk⟩ |⟨c,hi,hl,hk⟩)⟩
   ·exact ⟨none,_,by have:=run_endLoop (P:=P) hl (by rw [hrec];simp);rw [hrec] at this;exact this,hdone _ xs _ (Nat.le_refl _) hend (hI _ _ _ hi (Same1.putObj _ hl (by omega))) ((World.putObj_heap_other (by omega)).trans hk)⟩
   ·exact ⟨some c,_,by have:=run_endLoop (P:=P) hl (by rw [hrec];simp);rw [hrec] at this;exact this,hstop _ c _ (Nat.le_refl _) (hIx _ _ _ hi (Same1.putObj _ hl (by omega))) ((World.putObj_heap_other (by omega)).trans hk)⟩
attribute [local go_sem] Oper.semAt_some
namespace Lex
theorem Cj: ∀(k:Nat) (l:List UInt8) (i:Nat),(scan k l i).1.length≤l.length
 | 0,l,i=>by simp [scan]
 | k+1, [],i=>by simp [scan]
 | k+1,c :: r,i=>by
  cases ht:tok1 (c :: r) with
  | err o e=>rw [jU (by simp) ht];simp
  | tok kd tx nm n=>
   obtain ⟨t1,t2⟩:=mW ht
   have ih:=Cj k ((c :: r).drop (n+gap false ((c :: r).drop n))) (i+n+gap false ((c :: r).drop n))
   rw [jE ht rfl,List.length_cons]
   rw [List.length_drop] at ih
   omega
theorem nT: ∀(k:Nat) (l:List UInt8) (i:Nat) {p e:Nat},(scan k l i).2=some (p,e)→e≠0
 | 0,l,i,p,e,h=>by simp [scan] at h
 | k+1, [],i,p,e,h=>by simp [scan] at h
 | k+1,c :: r,i,p,e,h=>by
  cases ht:tok1 (c :: r) with
  | err o e'=>
   rw [jU (by simp) ht] at h
   have:=(sD (by simp) ht).1
   cases h
   exact this
  | tok kd tx nm n=>
   rw [jE ht rfl] at h
   exact nT k _ _ h
theorem KT (l:List UInt8):(read l).1.length≤16777216:=by
 unfold read
 split
 ·simp
 ·have:=Cj (l.length+1) (l.drop (gap false l)) (0+gap false l)
  unfold body
  rw [List.length_drop] at this
  omega
theorem KU {l:List UInt8} {p e:Nat} (h:(read l).2=some (p,e)):e≠0:=by
 unfold read at h
 split at h
 ·cases h;decide
 ·exact nT _ _ _ h
theorem KW (x:List Tok×Option (Nat×Nat)):(items x).length≤x.1.length+1:=by
 unfold items
 rw [List.length_append,List.length_map]
 cases x.2<;> simp
theorem KX {x:List Tok×Option (Nat×Nat)} {t:Tok} {e:Nat} (h:(t,e)∈items x) (he:e≠0):x.2=some (t.pos,e)∧t=⟨0, [],0,t.pos⟩:=by
 unfold items at h
 rcases List.mem_append.1 h with h | h
 ·obtain ⟨u,_,hu⟩:=List.mem_map.1 h
  cases hu
  exact absurd rfl he
 ·cases hx:x.2 with
  | none=>rw [hx] at h;cases h
  | some y=>
   obtain ⟨p,e'⟩:=y
   rw [hx] at h
   obtain h:=List.mem_singleton.1 h
   cases h
   exact ⟨rfl,rfl⟩
theorem KY {x:List Tok×Option (Nat×Nat)} (hx: ∀p e,x.2=some (p,e)→e≠0) (h: ∀y∈items x,y.2=0):x.2=none∧items x=x.1.map (fun t=>(t,0)):=by
 cases h2:x.2 with
 | none=>
  refine ⟨rfl, ?_⟩
  unfold items
  rw [h2,List.append_nil]
 | some y=>
  obtain ⟨p,e⟩:=y
  exact absurd (h (⟨0, [],0,p⟩,e) (by unfold items;rw [h2];simp)) (hx p e h2)
end Lex
theorem uV {V:World} {b:Nat} {t:TypeId} {c:Array Value} (h:Blk V b t c):Blk V.drew b t c:=h
def kG (t:Lex.Tok):List Value:= [.int .i64 (t.kind:Int), .string ⟨t.text.toArray⟩, .int .i64 t.num, .int .i64 (t.pos:Int)]
def fF (l:List Lex.Tok):List Value:=l.flatMap kG
theorem KZ (l:List Lex.Tok) (t:Lex.Tok):fF (l ++ [t])=fF l ++ kG t:=by simp [fF]
def lF (w:World) (B:Nat) (v:Value) (l:List Lex.Tok):Prop:=w.ownsRow B 138 4 v l.length (fF l)
theorem La:(Tryz.prog.info? 138).map (fun i=>(i.zero,i.size,i.bytes))=some (some (.agg #[.int .i64 0, .string ⟨#[]⟩, .int .i64 0, .int .i64 0]),4,40):=by kernel_rfl
theorem Lc (s:ByteArray) (w:World):
  Calls Tryz.prog 83 #[.string s] w fun e w'=>e= .returned (.func (.func 141) #[] #[.pointer (some ⟨w.heap.size,0,none⟩)])∧w.alloc (.cells #[.string s] 9)=w':=by
 go_enter Tryz.func83,Tryz.ntmps83
 go_wp2
 go_ret
 exact ⟨rfl,rfl⟩
def Ld (x:List Lex.Tok×Option (Nat×Nat)) (w:World) (e:Ending) (w':World):Prop:=
 Below w.heap.size w w'∧match x.2 with
  | none=> ∃v,e= .returned (.tuple #[v, .int .i64 0, .int .i64 0])∧lF w' w.heap.size v x.1
  | some (p,k)=>e= .returned (.tuple #[.slice none 0 0, .int .i64 (p:Int), .int .i64 (k:Int)])
def allW1 (x:LY) (W:World):World:=W.alloc (.cells #[.int .i64 (x.1.kind:Int), .string ⟨x.1.text.toArray⟩, .int .i64 x.1.num, .int .i64 (x.1.pos:Int)] 138)
theorem Le (s:ByteArray) (hs:s.size≤1073741823) (w:World) (hL:Laid w):
  Calls Tryz.prog 47 #[.string s] w (Ld (Lex.read s.data.toList) w):=by
 obtain ⟨i0,hi,hz0,hz1,hz2⟩:=info_parts La
 have HLL:=hq7 hL
 clear hL
 refine uQ Tryz.func47 rfl ?_
 simp only [Tryz.ntmps47,List.size_toArray,List.length_cons,List.length_nil,Nat.reduceAdd,Nat.reduceSub,Array.replicate_succ,Array.replicate_zero,List.push_toArray,List.append_toArray,List.nil_append,List.cons_append]
 go_wp2_with (go_at_call 83;refine (Lc _ _).mono ?_;rintro e w' ⟨rfl,rfl⟩)
 obtain ⟨W,hW⟩: ∃W,(((w.alloc (.cells #[.slice none 0 0] 90)).alloc (.cells #[.int .i64 0] 3)).alloc (.cells #[.int .i64 0] 29)).alloc (.cells #[.string s] 9)=W:=⟨_,rfl⟩
 have hsz:W.heap.size=w.heap.size+4:=by rw [←hW];simp
 have b0:Blk W w.heap.size 90 #[.slice none 0 0]:=by rw [←hW];exact (((Blk.new _ _ _).alloc _).alloc _).alloc _
 have b1:Blk W (w.heap.size+1) 3 #[.int .i64 0]:=by rw [←hW];have:=((Blk.new (w.alloc (.cells #[.slice none 0 0] 90)) 3 #[.int .i64 0]).alloc (.cells #[.int .i64 0] 29)).alloc (.cells #[.string s] 9);simpa using this
 have b2:Blk W (w.heap.size+2) 29 #[.int .i64 0]:=by rw [←hW];have:=(Blk.new ((w.alloc (.cells #[.slice none 0 0] 90)).alloc (.cells #[.int .i64 0] 3)) 29 #[.int .i64 0]).alloc (.cells #[.string s] 9);simpa using this
 have b3:Blk W (w.heap.size+3) 9 #[.string s]:=by rw [←hW];have:=Blk.new (((w.alloc (.cells #[.slice none 0 0] 90)).alloc (.cells #[.int .i64 0] 3)).alloc (.cells #[.int .i64 0] 29)) 9 #[.string s];simpa using this
 have bb:Below w.heap.size w W:=by rw [←hW];exact ((((Below.refl _ w).alloc (Nat.le_refl _) _).alloc (by simp) _).alloc (by simp;omega) _).alloc (by simp;omega) _
 rw [hW]
 clear hW
 refine (wpIn_wide (n:=9)).1 ?_
 refine' uU 207 (gf:=141) (lb:= #[.pointer (some ⟨w.heap.size+3,0,none⟩)]) rfl (enters_of Tryz.func141 (by kernel_rfl) rfl) (encs:=uS) (fun x=>rfl) (Pre:=fun _ _ _=>True) _ allW1 (fun x W=>(Below.refl _ W).alloc (Nat.le_refl _) _) (fun _ _ _ _ _ _ _ _=>trivial)
  (fun W1 hb hn=>KR s hs W.heap.size (w.heap.size+3) (by omega) W1 hn)
  (fun pre V=>(∃vo,Blk V w.heap.size 90 #[vo]∧lF V w.heap.size vo (pre.map (·.1)))∧Blk V (w.heap.size+1) 3 #[.int .i64 0]∧Blk V (w.heap.size+2) 29 #[.int .i64 0]∧Blk V (w.heap.size+3) 9 #[.string s]∧Below w.heap.size w V∧(∀y∈pre,y.2=0))
  (fun c V=>c= .ret∧ ∃p e,(Lex.read s.data.toList).2=some (p,e)∧Blk V w.heap.size 90 #[.slice none 0 0]∧Blk V (w.heap.size+1) 3 #[.int .i64 (p:Int)]∧Blk V (w.heap.size+2) 29 #[.int .i64 (e:Int)]∧Below w.heap.size w V)
  ?hI ?hIx ?hAux ⟨⟨_,b0,World.ownsRow_nil _ _ _ _⟩,b1,b2,b3,bb,by simp⟩ ?assign ?body ?done ?stop
 case hI=>
  rintro pre A B ⟨⟨vo,h1,h2⟩,h3,h4,h5,h6,h7⟩ hs
  exact ⟨⟨vo,hs.blk h1 (by decide),hs.own h2 (by decide)⟩,hs.blk h3 (by decide),hs.blk h4 (by decide),hs.blk h5 (by decide),h6.trans (hs.below (by omega) h6.size),h7⟩
 case hIx=>
  rintro c A B ⟨hc,p,e,h0,h1,h2,h3,h4⟩ hs
  exact ⟨hc,p,e,h0,hs.blk h1 (by decide),hs.blk h2 (by decide),hs.blk h3 (by decide),h4.trans (hs.below (by omega) h4.size)⟩
 case hAux=>
  rintro pre V ⟨_,_,_,h5,h6,_⟩
  exact ⟨h5.cell 0,HLL.out.below h6⟩
 case assign=>
  intro l x V K hK
  simp only [uS,tokA]
  gi_wp2
  exact hK
 case body=>
  rintro l pre x W0 Va V ⟨⟨vo,h1,h2⟩,h3,h4,h5,h6,h7⟩ hs1 hs2 hblk - - hstep hl hn0
  have hs':=hs1.trans hs2
  obtain ⟨⟨kd,tx,nm,ps⟩,e⟩:=x
  have g1:=hs'.blk h1 (show 90≠207 by decide)
  have g3:=hs'.blk h3 (show 3≠207 by decide)
  have g4:=hs'.blk h4 (show 29≠207 by decide)
  have g5:=hs'.blk h5 (show 9≠207 by decide)
  have g6:=h6.trans (hs'.below (by omega) h6.size)
  have g2:lF V w.heap.size vo (pre.map (·.1)):=hs'.own h2 (by decide)
  have gt:=hblk Va.heap.size 138 #[.int .i64 (kd:Int), .string ⟨tx.toArray⟩, .int .i64 nm, .int .i64 (ps:Int)] (Blk.new _ _ _)
  have c1:=g1.cell 0
  have f1:=g1.frozen 0
  have c3:=g3.cell 0
  have f3:=g3.frozen 0
  have c4:=g4.cell 0
  have f4:=g4.frozen 0
  have m0:=gt.cell 0
  have m1:=gt.cell 1
  have m2:=gt.cell 2
  have m3:=gt.cell 3
  simp at c1 c3 c4 m0 m1 m2 m3
  have HG1:=hq7 g1
  have HG3:=hq7 g3
  have HG4:=hq7 g4
  have HG5:=hq7 g5
  have HG6:=hq7 g6
  have HG2:=hq7 g2
  have HST:=hq7 hstep
  have H7:=hq7 h7
  have hlen:pre.length≤16777217:=by
   have q1:=hstep.length_le
   have q2:=Lex.KW (Lex.read s.data.toList)
   have q3:=Lex.KT s.data.toList
   rw [List.length_append,List.length_singleton] at q1
   omega
  obtain ⟨n,hn⟩: ∃n,pre.length=n:=⟨_,rfl⟩
  have g2':V.ownsRow w.heap.size 138 4 vo n (fF (pre.map (·.1))):=by
   have:=g2
   unfold lF at this
   rwa [List.length_map,hn] at this
  obtain ⟨Ao,co,rfl⟩:=ak g2'
  have HN:=hq7 hn
  have HO2:=hq7 g2'
  rw [hn] at hlen
  clear hn g2' HG2
  clear hs' hs1 hs2 hblk h1 h2 h3 h4 h5 h6 h7 hstep g1 g2 g3 g4 g5 g6 gt hsz b0 b1 b2 b3 bb
  by_cases he:e=0
  ·subst he
   gi_wp2_with (gi_at_builtin;refine wpListIn_append_own _ rfl _ _ 90 rfl w.heap.size 138 i0 (.agg #[.int .i64 0, .string ⟨#[]⟩, .int .i64 0, .int .i64 0]) 4 40 Tryz.underlying90 hi hz0 hz1 hz2 rfl (by decide) _ _ _ rfl (World.ownsRow.alloc HO2.out _) ⟨V.heap.size,0,none⟩ 1 1 [.int .i64 (kd:Int), .string ⟨tx.toArray⟩, .int .i64 nm, .int .i64 (ps:Int)] rfl rfl ?c1 ?c2 ?c3 ?c4 ?c5 ?_)
   case c1=>
    intro j u h
    have hb:=Blk.new V 138 #[.int .i64 (kd:Int), .string ⟨tx.toArray⟩, .int .i64 nm, .int .i64 (ps:Int)]
    match j,h with
    | 0,h=>cases h;exact hb.cell 0
    | 1,h=>cases h;exact hb.cell 1
    | 2,h=>cases h;exact hb.cell 2
    | 3,h=>cases h;exact hb.cell 3
   case c2=>simp [Value.oneCell']
   case c3=>unfold maxLen;omega
   case c4=>omega
   case c5=>have:=HG6.out.size;simp;omega
   intro v' V2 hown' hgrow _
   obtain ⟨g',cap',rfl⟩:=ownsRow_succ hown'
   have hnb:=dZ HO2.out
   have hrowty: ∀g c t fz,(Value.slice Ao n co).ownBlock=some g→(V.alloc (.cells #[.int .i64 (kd:Int), .string ⟨tx.toArray⟩, .int .i64 nm, .int .i64 (ps:Int)] 138)).heap[g]?=some (.cells c t fz)→t=138:=fun g c t fz e hc=>by
    obtain ⟨_,c',hc'⟩:=hnb g e
    rw [Below.heap_alloc _ _ _ (Array.getElem?_eq_some_iff.1 hc').1,hc'] at hc
    cases hc
    rfl
   have hne: ∀(b:Nat) (t:TypeId) (c:Array Value),Blk V b t c→t≠138→some b≠(Value.slice Ao n co).ownBlock:=fun b t c hb ht e=>by
    obtain ⟨_,c',hc'⟩:=hnb b e.symm
    unfold Blk at hb
    rw [hc'] at hb
    cases hb
    exact ht rfl
   have k1:Blk V2 w.heap.size 90 #[.slice Ao n co]:=Blk.grown (Blk.alloc HG1.out _) hgrow (hne _ _ _ HG1.out (by decide))
   have k3:Blk V2 (w.heap.size+1) 3 #[.int .i64 0]:=Blk.grown (Blk.alloc HG3.out _) hgrow (hne _ _ _ HG3.out (by decide))
   have k4:Blk V2 (w.heap.size+2) 29 #[.int .i64 0]:=Blk.grown (Blk.alloc HG4.out _) hgrow (hne _ _ _ HG4.out (by decide))
   have k5:Blk V2 (w.heap.size+3) 9 #[.string s]:=Blk.grown (Blk.alloc HG5.out _) hgrow (hne _ _ _ HG5.out (by decide))
   have k6:Below w.heap.size w V2:=(HG6.out.alloc HG6.out.size _).grown hgrow (by have:=HG6.out.size;simp;omega) (fun k e=>(hnb k e).1)
   have c2:=k1.cell 0
   have f2:=k1.frozen 0
   simp at c2
   have HK1:=hq7 k1
   have HK3:=hq7 k3
   have HK4:=hq7 k4
   have HK5:=hq7 k5
   have HK6:=hq7 k6
   have HOW:=hq7 hown'
   have HGR:=hq7 hgrow
   have HNB:=hq7 hnb
   have HRT:=hq7 hrowty
   clear k1 k3 k4 k5 k6 hne hnb hown' hgrow hrowty c1 f1 c3 f3 c4 f4 m0 m1 m2 m3
   gi_wp2
   have hset:=grownBy_set V2 ⟨w.heap.size,0,none⟩ (.slice (some ⟨g',0,none⟩) (n+1) cap')
   have hboxty: ∀g c t fz,some (⟨w.heap.size,0,none⟩:Addr).block=some g→V2.heap[g]?=some (.cells c t fz)→t=90:=fun g c t fz e hc=>by
    cases e
    have:=HK1.out
    unfold Blk at this
    rw [show V2.heap[w.heap.size]?=some (.cells c t fz) from hc] at this
    cases this
    rfl
   refine ⟨((KeepsOthers.alloc _ _).from _).trans (((KeepsOthers.of_grownBy HGR.out (fun j o e ho=> ?_)).from _).trans ((KeepsOthers.setCell _ _ _).from _)), ?_,⟨_,Blk.ay HK1.out 0 _, ?_⟩,Blk.far HK3.out (by simp) _,Blk.far HK4.out (by simp) _,Blk.far HK5.out (by simp) _,HK6.out.setCell (p:=⟨w.heap.size,0,none⟩) (Nat.le_refl _) _, ?_⟩
   ·obtain ⟨_,c',hc'⟩:=HNB.out j e
    rw [Below.heap_alloc _ _ _ (Array.getElem?_eq_some_iff.1 hc').1,hc'] at ho
    cases ho
    rfl
   ·refine (dI.iW (World.grownBy_alloc _ _ none) (fun g c fz e=>by cases e)).trans ((dI.iW HGR.out (fun g c fz e hc=> ?_)).trans (dI.iW hset (fun g c fz e hc=> ?_)))
    ·exact absurd (HRT.out g c _ fz e hc) (by decide)
    ·exact absurd (hboxty g c _ fz e hc) (by decide)
   ·have:=aP HOW.out hset (fun g c t fz e hc=>by rw [hboxty g c t fz e hc];decide)
    unfold lF
    rw [List.map_append,List.length_append,List.length_map,HN.out]
    show World.ownsRow _ _ _ _ _ (n+1) (fF (pre.map (·.1) ++ [_]))
    rw [KZ]
    exact this
   ·intro y hy
    rcases List.mem_append.1 hy with h | h
    ·exact H7.out y h
    ·rw [List.mem_singleton.1 h]
  ·have heb:((e:Int) !=0)=true:=by rw [bne_iff_ne];omega
   have hmem:((⟨kd,tx,nm,ps⟩:Lex.Tok),e)∈Lex.items (Lex.read s.data.toList):=HST.out.subset (by simp)
   obtain ⟨q1,q2⟩:=Lex.KX hmem he
   have Q1:=hq7 q1
   clear q1 q2 hmem
   gi_wp2
   gi_region
   all_goals gi_wp2
   all_goals
    refine ⟨((((KeepsOthers.setCell _ _ _).from _).trans ((KeepsOthers.setCell _ _ _).from _)).trans ((KeepsOthers.setCell _ _ _).from _)).trans ((KeepsOthers.drew _).from _),rfl,ps,e,Q1.out, ?_, ?_, ?_, ?_⟩
    ·exact uV (Blk.far (Blk.far (Blk.ay HG1.out 0 _) (by first |(simp;done) |(simp;omega)) _) (by first |(simp;done) |(simp;omega)) _)
    ·exact uV (Blk.far (Blk.ay (Blk.far HG3.out (by first |(simp;done) |(simp;omega)) _) 0 _) (by first |(simp;done) |(simp;omega)) _)
    ·exact uV (Blk.ay (Blk.far (Blk.far HG4.out (by first |(simp;done) |(simp;omega)) _) (by first |(simp;done) |(simp;omega)) _) 0 _)
    ·exact Below.drew (((HG6.out.setCell (by first |(simp;done) |(simp;omega)) _).setCell (by first |(simp;done) |(simp;omega)) _).setCell (by first |(simp;done) |(simp;omega)) _)
 case done=>
  rintro D xs V hD hend ⟨⟨vo,h1,h2⟩,h3,h4,h5,h6,h7⟩ hK
  have hall:(Lex.read s.data.toList).2=none∧Lex.items (Lex.read s.data.toList)=(Lex.read s.data.toList).1.map (fun t=>(t,0)):=Lex.KY (fun p e h=>Lex.KU h) (fun y hy=>h7 y (by rw [hend];exact hy))
  have hxs:xs.map (·.1)=(Lex.read s.data.toList).1:=by
   rw [hend,hall.2,List.map_map]
   exact List.map_id' _
  rw [hxs] at h2
  obtain ⟨T,hT⟩: ∃T,(Lex.read s.data.toList).1=T:=⟨_,rfl⟩
  rw [hT] at h2
  obtain ⟨Ao,co,rfl⟩:=ak h2
  have c1:=h1.cell 0
  have f1:=h1.frozen 0
  have c3:=h3.cell 0
  have f3:=h3.frozen 0
  have c4:=h4.cell 0
  have f4:=h4.frozen 0
  simp at c1 c3 c4
  have HA:=hq7 hall.1
  have HT:=hq7 hT
  have H1:=hq7 h1
  have H2:=hq7 h2
  have H3:=hq7 h3
  have H4:=hq7 h4
  have H6:=hq7 h6
  have HKD:=hq7 hK
  have HSZ:=hq7 hsz
  have HDD:=hq7 hD
  obtain ⟨n,hn⟩: ∃n,T.length=n:=⟨_,rfl⟩
  rw [hn] at c1
  have HNN:=hq7 hn
  clear hall hxs hT h1 h2 h3 h4 h5 h6 h7 hend hK hsz hD hn b0 b1 b2 b3 bb
  go_wp2
  have n0:D≠w.heap.size:=by have:=HSZ.out;have:=HDD.out;omega
  have n1:D≠w.heap.size+1:=by have:=HSZ.out;have:=HDD.out;omega
  have n2:D≠w.heap.size+1+1:=by have:=HSZ.out;have:=HDD.out;omega
  have hK2:(((V.setCell ⟨w.heap.size,0,none⟩ (.slice Ao n co)).setCell ⟨w.heap.size+1,0,none⟩ (.int .i64 0)).setCell ⟨w.heap.size+1+1,0,none⟩ (.int .i64 0)).heap[D]?=some (.deferred (some [])):=by
   rw [Below.heap_setCell _ _ _ _ n2,Below.heap_setCell _ _ _ _ n1,Below.heap_setCell _ _ _ _ n0]
   exact HKD.out
  have B1:=lD (o:= .deferred none) hK2 (Blk.far (p:=⟨w.heap.size+1+1,0,none⟩) (Blk.far (Blk.ay H1.out 0 (.slice Ao n co)) (p:=⟨w.heap.size+1,0,none⟩) (by simp) (.int .i64 0)) (by simp;omega) (.int .i64 0))
  have B3:=lD (o:= .deferred none) hK2 (Blk.far (p:=⟨w.heap.size+1+1,0,none⟩) (Blk.ay (Blk.far H3.out (p:=⟨w.heap.size,0,none⟩) (by simp) (.slice Ao n co)) 0 (.int .i64 0)) (by simp) (.int .i64 0))
  have B4:=lD (o:= .deferred none) hK2 (Blk.ay (Blk.far (p:=⟨w.heap.size+1,0,none⟩) (Blk.far H4.out (p:=⟨w.heap.size,0,none⟩) (by simp) (.slice Ao n co)) (by simp) (.int .i64 0)) 0 (.int .i64 0))
  have q1:=B1.cell 0
  have q3:=B3.cell 0
  have q4:=B4.cell 0
  simp at q1 q3 q4
  refine qC hK2 (v:= .tuple #[.slice Ao n co, .int .i64 0, .int .i64 0]) (by simp [results,Tryz.results47,go_sem,q1,q3,q4]) ?_
  refine ⟨qB (((H6.out.setCell (p:=⟨w.heap.size,0,none⟩) (Nat.le_refl _) _).setCell (p:=⟨w.heap.size+1,0,none⟩) (by simp) _).setCell (p:=⟨w.heap.size+1+1,0,none⟩) (by simp;omega) _) (by have:=HSZ.out;have:=HDD.out;omega), ?_⟩
  rw [HA.out]
  refine ⟨_,rfl, ?_⟩
  rw [HT.out]
  unfold lF
  rw [HNN.out]
  refine Ci hK2 ?_
  have h2':=H2.out
  unfold lF at h2'
  rw [HNN.out] at h2'
  have ty: ∀{X:World} {b:Nat} {t:TypeId} {c0:Array Value} {v:Value},Blk X b t c0→t≠138→X.ownsRow w.heap.size 138 4 (.slice Ao n co) n (fF T)→(X.setCell ⟨b,0,none⟩ v).ownsRow w.heap.size 138 4 (.slice Ao n co) n (fF T):=fun {X b t c0 v} hb ht ho=>
   aP ho (grownBy_set _ _ _) (fun g c t' fz e hc=>by
    cases e
    unfold Blk at hb
    rw [show X.heap[b]?=some (.cells c t' fz) from hc] at hb
    cases hb
    exact ht)
  exact ty (Blk.far (p:=⟨w.heap.size+1,0,none⟩) (Blk.far H4.out (p:=⟨w.heap.size,0,none⟩) (by simp) _) (by simp) _) (by decide) (ty (Blk.far H3.out (p:=⟨w.heap.size,0,none⟩) (by simp) _) (by decide) (ty H1.out (by decide) h2'))
 case stop=>
  rintro D c V hD ⟨rfl,p,e,h0,h1,h3,h4,h6⟩ hK
  refine wpIn_wide.2 ?_
  have H0:=hq7 h0
  have H1:=hq7 h1
  have H3:=hq7 h3
  have H4:=hq7 h4
  have H6:=hq7 h6
  have HKD:=hq7 hK
  have HSZ:=hq7 hsz
  have HDD:=hq7 hD
  clear h0 h1 h3 h4 h6 hK hsz hD b0 b1 b2 b3 bb
  go_wp2
  have B1:=lD (o:= .deferred none) HKD.out H1.out
  have B3:=lD (o:= .deferred none) HKD.out H3.out
  have B4:=lD (o:= .deferred none) HKD.out H4.out
  have q1:=B1.cell 0
  have q3:=B3.cell 0
  have q4:=B4.cell 0
  simp at q1 q3 q4
  refine qC HKD.out (v:= .tuple #[.slice none 0 0, .int .i64 p, .int .i64 e]) (by simp [results,Tryz.results47,go_sem,q1,q3,q4]) ?_
  exact ⟨qB H6.out (by have:=HSZ.out;have:=HDD.out;omega),by rw [H0.out]⟩
end Go.Proofs.YtoofbflplhbpbaaGreatDoor
