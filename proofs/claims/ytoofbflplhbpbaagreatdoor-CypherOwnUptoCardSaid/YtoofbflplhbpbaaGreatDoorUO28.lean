/- Contracts and plain laws,part 28. -/
import Derived.Test.YtoofbflplhbpbaaGreatDoorUO27
set_option maxHeartbeats 64000000
set_option maxRecDepth 1000000
set_option linter.all false
namespace Go.Proofs.YtoofbflplhbpbaaGreatDoor
open Go.RowKit
theorem qJ (w:World) (e:TypeId) (size:Nat):(w.alloc (.cells #[] e)).ownsRow w.heap.size e size (.slice (some ⟨w.heap.size,0,none⟩) 0 0) 0 []:=
 ⟨by simp, .inr ⟨w.heap.size,0,#[],rfl,ab1 _,heap_alloc_new w _,by simp,by simp,by simp,by simp⟩⟩
theorem aiC:(Tryz.prog.info? 5).map (fun i=>(i.zero,i.size,i.bytes))=some (some (.int .u8 0),1,1):=by kernel_rfl
theorem aiD (B:Nat) (A:Option Addr) (c n:Nat) (news:List Value) (w:World) (h:Reads w B 1 A n news) (h1: ∀u∈news,u.oneCell'=true) (hn:n<=1073741824) (hB:B<=w.heap.size):
  Calls Tryz.prog 287 #[.slice A n c] w fun e w'=> ∃v',e= .returned v'/\w'.ownsRow w.heap.size 5 1 v' n news/\Below w.heap.size w w':=by
 have q22: ∀(w:World) (a:Option Addr) (n c n' c':Nat),(binOp .eql 55 (.slice a n c) (.slice none n' c')).run Tryz.prog w= .ok (.bool a.isNone) w:=fun w a n c n' c'=>Lib.run_eql_slice_nil w _ _ a n c n' c' Tryz.underlying55
 cases A with
 | none=>
  obtain rfl:n=0:=by
   rcases aed n with h0 | hp
   ·exact h0
   obtain ⟨b,off,he,-⟩:=h.2 hp;cases he
  obtain rfl:news= []:=acD (by simpa using h.1)
  clear h hn h1;go_enter Tryz.func287,Tryz.ntmps287;go_wp2;go_ret
  exact ⟨_,rfl,World.ownsRow_nil _ _ _ _,Below.refl _ _⟩
 | some a=>
  obtain ⟨i0,hi,hz0,hz1,hz2⟩:=info_parts aiC
  have HH:=ah (h.below ((Below.refl B w).alloc hB (.cells #[] 5)));have H1:=ah h1
  have oP:=ah (qJ w 5 1);have dQ:=ah (show 0+n<=maxLen by unfold maxLen;omega)
  have HL2:=ah (show (0+n)*1<=140737488355328 by omega)
  clear h h1 hn;go_enter Tryz.func287,Tryz.ntmps287
  go_wp2_with (at_builtin;refine Bc (w.alloc (.cells #[] 5)) rfl (.tmp 5) (.tmp 6) 55 rfl w.heap.size 5 i0 (.int .u8 0) 1 1 Tryz.underlying55 hi hz0 hz1 hz2 rfl (by decide) (.slice (some ⟨w.heap.size,0,none⟩) 0 0) 0 [] rfl oP.out B (some a) n c news rfl HH.out H1.out dQ.out HL2.out (by simp) ?_)
  intro v9 w9 aN bC dO;have lZ:=ah aN
  have dh:=ah (((Below.refl w.heap.size w).alloc (ab1 _) (.cells #[] 5)).grown bC (by simp) (fun j e=>by cases e;exact ab1 _))
  clear aN bC dO;go_wp2;go_ret;exact ⟨v9,rfl,by simpa using lZ.out,dh.out⟩
theorem aiE:(Tryz.prog.info? 2).map (fun i=>(i.zero,i.size,i.bytes))=some (some (.int .i64 0),1,8):=by kernel_rfl
theorem aiF (B:Nat) (A:Option Addr) (c n:Nat) (news:List Value) (w:World) (h:Reads w B 1 A n news) (h1: ∀u∈news,u.oneCell'=true) (hn:n<=1073741824) (hB:B<=w.heap.size):
  Calls Tryz.prog 150 #[.slice A n c] w fun e w'=> ∃v',e= .returned v'/\w'.ownsRow w.heap.size 2 1 v' n news/\Below w.heap.size w w':=by
 have q22: ∀(w:World) (a:Option Addr) (n c n' c':Nat),(binOp .eql 22 (.slice a n c) (.slice none n' c')).run Tryz.prog w= .ok (.bool a.isNone) w:=fun w a n c n' c'=>Lib.run_eql_slice_nil w _ _ a n c n' c' Tryz.underlying22
 cases A with
 | none=>
  obtain rfl:n=0:=by
   rcases aed n with h0 | hp
   ·exact h0
   obtain ⟨b,off,he,-⟩:=h.2 hp;cases he
  obtain rfl:news= []:=acD (by simpa using h.1)
  clear h hn h1;go_enter Tryz.func150,Tryz.ntmps150;go_wp2;go_ret
  exact ⟨_,rfl,World.ownsRow_nil _ _ _ _,Below.refl _ _⟩
 | some a=>
  obtain ⟨i0,hi,hz0,hz1,hz2⟩:=info_parts aiE
  have HH:=ah (h.below ((Below.refl B w).alloc hB (.cells #[] 2)));have H1:=ah h1
  have oP:=ah (qJ w 2 1);have dQ:=ah (show 0+n<=maxLen by unfold maxLen;omega)
  have HL2:=ah (show (0+n)*8<=140737488355328 by omega)
  clear h h1 hn;go_enter Tryz.func150,Tryz.ntmps150
  go_wp2_with (at_builtin;refine Bc (w.alloc (.cells #[] 2)) rfl (.tmp 5) (.tmp 6) 22 rfl w.heap.size 2 i0 (.int .i64 0) 1 8 Tryz.underlying22 hi hz0 hz1 hz2 rfl (by decide) (.slice (some ⟨w.heap.size,0,none⟩) 0 0) 0 [] rfl oP.out B (some a) n c news rfl HH.out H1.out dQ.out HL2.out (by simp) ?_)
  intro v9 w9 aN bC dO;have lZ:=ah aN
  have dh:=ah (((Below.refl w.heap.size w).alloc (ab1 _) (.cells #[] 2)).grown bC (by simp) (fun j e=>by cases e;exact ab1 _))
  clear aN bC dO;go_wp2;go_ret;exact ⟨v9,rfl,by simpa using lZ.out,dh.out⟩
theorem xR:(Tryz.prog.info? 9).map (fun i=>(i.zero,i.size,i.bytes))=some (some (.string ⟨#[]⟩),1,16):=by kernel_rfl
theorem aaD (B:Nat) (A:Option Addr) (c n:Nat) (news:List Value) (w:World) (h:Reads w B 1 A n news) (h1: ∀u∈news,u.oneCell'=true) (hn:n<=1073741824) (hB:B<=w.heap.size):
  Calls Tryz.prog 95 #[.slice A n c] w fun e w'=> ∃v',e= .returned v'/\w'.ownsRow w.heap.size 9 1 v' n news/\Below w.heap.size w w':=by
 have q22: ∀(w:World) (a:Option Addr) (n c n' c':Nat),(binOp .eql 23 (.slice a n c) (.slice none n' c')).run Tryz.prog w= .ok (.bool a.isNone) w:=fun w a n c n' c'=>Lib.run_eql_slice_nil w _ _ a n c n' c' Tryz.underlying23
 cases A with
 | none=>
  obtain rfl:n=0:=by
   rcases aed n with h0 | hp
   ·exact h0
   obtain ⟨b,off,he,-⟩:=h.2 hp;cases he
  obtain rfl:news= []:=acD (by simpa using h.1)
  clear h hn h1;go_enter Tryz.func95,Tryz.ntmps95;go_wp2;go_ret
  exact ⟨_,rfl,World.ownsRow_nil _ _ _ _,Below.refl _ _⟩
 | some a=>
  obtain ⟨i0,hi,hz0,hz1,hz2⟩:=info_parts xR
  have HH:=ah (h.below ((Below.refl B w).alloc hB (.cells #[] 9)));have H1:=ah h1
  have oP:=ah (qJ w 9 1);have dQ:=ah (show 0+n<=maxLen by unfold maxLen;omega)
  have HL2:=ah (show (0+n)*16<=140737488355328 by omega)
  clear h h1 hn;go_enter Tryz.func95,Tryz.ntmps95
  go_wp2_with (at_builtin;refine Bc (w.alloc (.cells #[] 9)) rfl (.tmp 5) (.tmp 6) 23 rfl w.heap.size 9 i0 (.string ⟨#[]⟩) 1 16 Tryz.underlying23 hi hz0 hz1 hz2 rfl (by decide) (.slice (some ⟨w.heap.size,0,none⟩) 0 0) 0 [] rfl oP.out B (some a) n c news rfl HH.out H1.out dQ.out HL2.out (by simp) ?_)
  intro v9 w9 aN bC dO;have lZ:=ah aN
  have dh:=ah (((Below.refl w.heap.size w).alloc (ab1 _) (.cells #[] 9)).grown bC (by simp) (fun j e=>by cases e;exact ab1 _))
  clear aN bC dO;go_wp2;go_ret;exact ⟨v9,rfl,by simpa using lZ.out,dh.out⟩
theorem aaE:(Tryz.prog.info? 61).map (fun i=>(i.zero,i.size,i.bytes))=some (some (.agg #[.string ⟨#[]⟩, .int .i64 0, .int .i64 0, .string ⟨#[]⟩, .slice none 0 0, .slice none 0 0]),6,96):=by kernel_rfl
theorem aiG (B:Nat) (A:Option Addr) (c n:Nat) (news:List Value) (w:World) (h:Reads w B 6 A n news) (h1: ∀u∈news,u.oneCell'=true) (hn:n<=1073741824) (hB:B<=w.heap.size):
  Calls Tryz.prog 149 #[.slice A n c] w fun e w'=> ∃v',e= .returned v'/\w'.ownsRow w.heap.size 61 6 v' n news/\Below w.heap.size w w':=by
 have q22: ∀(w:World) (a:Option Addr) (n c n' c':Nat),(binOp .eql 57 (.slice a n c) (.slice none n' c')).run Tryz.prog w= .ok (.bool a.isNone) w:=fun w a n c n' c'=>Lib.run_eql_slice_nil w _ _ a n c n' c' Tryz.underlying57
 cases A with
 | none=>
  obtain rfl:n=0:=by
   rcases aed n with h0 | hp
   ·exact h0
   obtain ⟨b,off,he,-⟩:=h.2 hp;cases he
  obtain rfl:news= []:=acD (by simpa using h.1)
  clear h hn h1;go_enter Tryz.func149,Tryz.ntmps149;go_wp2;go_ret
  exact ⟨_,rfl,World.ownsRow_nil _ _ _ _,Below.refl _ _⟩
 | some a=>
  obtain ⟨i0,hi,hz0,hz1,hz2⟩:=info_parts aaE
  have HH:=ah (h.below ((Below.refl B w).alloc hB (.cells #[] 61)));have H1:=ah h1
  have oP:=ah (qJ w 61 6);have dQ:=ah (show 0+n<=maxLen by unfold maxLen;omega)
  have HL2:=ah (show (0+n)*96<=140737488355328 by omega)
  clear h h1 hn;go_enter Tryz.func149,Tryz.ntmps149
  go_wp2_with (at_builtin;refine Bc (w.alloc (.cells #[] 61)) rfl (.tmp 5) (.tmp 6) 57 rfl w.heap.size 61 i0 (.agg #[.string ⟨#[]⟩, .int .i64 0, .int .i64 0, .string ⟨#[]⟩, .slice none 0 0, .slice none 0 0]) 6 96 Tryz.underlying57 hi hz0 hz1 hz2 rfl (by decide) (.slice (some ⟨w.heap.size,0,none⟩) 0 0) 0 [] rfl oP.out B (some a) n c news rfl HH.out H1.out dQ.out HL2.out (by simp) ?_)
  intro v9 w9 aN bC dO;have lZ:=ah aN
  have dh:=ah (((Below.refl w.heap.size w).alloc (ab1 _) (.cells #[] 61)).grown bC (by simp) (fun j e=>by cases e;exact ab1 _))
  clear aN bC dO;go_wp2;go_ret;exact ⟨v9,rfl,by simpa using lZ.out,dh.out⟩
theorem aiH:(Tryz.prog.info? 59).map (fun i=>(i.zero,i.size,i.bytes))=some (some (.agg #[.int .i64 0, .slice none 0 0, .slice none 0 0]),3,56):=by kernel_rfl
theorem aiI (B:Nat) (A:Option Addr) (c n:Nat) (news:List Value) (w:World) (h:Reads w B 3 A n news) (h1: ∀u∈news,u.oneCell'=true) (hn:n<=1073741824) (hB:B<=w.heap.size):
  Calls Tryz.prog 93 #[.slice A n c] w fun e w'=> ∃v',e= .returned v'/\w'.ownsRow w.heap.size 59 3 v' n news/\Below w.heap.size w w':=by
 have q22: ∀(w:World) (a:Option Addr) (n c n' c':Nat),(binOp .eql 36 (.slice a n c) (.slice none n' c')).run Tryz.prog w= .ok (.bool a.isNone) w:=fun w a n c n' c'=>Lib.run_eql_slice_nil w _ _ a n c n' c' Tryz.underlying36
 cases A with
 | none=>
  obtain rfl:n=0:=by
   rcases aed n with h0 | hp
   ·exact h0
   obtain ⟨b,off,he,-⟩:=h.2 hp;cases he
  obtain rfl:news= []:=acD (by simpa using h.1)
  clear h hn h1;go_enter Tryz.func93,Tryz.ntmps93;go_wp2;go_ret
  exact ⟨_,rfl,World.ownsRow_nil _ _ _ _,Below.refl _ _⟩
 | some a=>
  obtain ⟨i0,hi,hz0,hz1,hz2⟩:=info_parts aiH
  have HH:=ah (h.below ((Below.refl B w).alloc hB (.cells #[] 59)));have H1:=ah h1
  have oP:=ah (qJ w 59 3);have dQ:=ah (show 0+n<=maxLen by unfold maxLen;omega)
  have HL2:=ah (show (0+n)*56<=140737488355328 by omega)
  clear h h1 hn;go_enter Tryz.func93,Tryz.ntmps93
  go_wp2_with (at_builtin;refine Bc (w.alloc (.cells #[] 59)) rfl (.tmp 5) (.tmp 6) 36 rfl w.heap.size 59 i0 (.agg #[.int .i64 0, .slice none 0 0, .slice none 0 0]) 3 56 Tryz.underlying36 hi hz0 hz1 hz2 rfl (by decide) (.slice (some ⟨w.heap.size,0,none⟩) 0 0) 0 [] rfl oP.out B (some a) n c news rfl HH.out H1.out dQ.out HL2.out (by simp) ?_)
  intro v9 w9 aN bC dO;have lZ:=ah aN
  have dh:=ah (((Below.refl w.heap.size w).alloc (ab1 _) (.cells #[] 59)).grown bC (by simp) (fun j e=>by cases e;exact ab1 _))
  clear aN bC dO;go_wp2;go_ret;exact ⟨v9,rfl,by simpa using lZ.out,dh.out⟩
theorem aiJ:(Tryz.prog.info? 63).map (fun i=>(i.zero,i.size,i.bytes))=some (some (.agg #[.int .i64 0, .string ⟨#[]⟩, .int .i64 0, .int .i64 0, .slice none 0 0]),5,64):=by kernel_rfl
theorem aiK (B:Nat) (A:Option Addr) (c n:Nat) (news:List Value) (w:World) (h:Reads w B 5 A n news) (h1: ∀u∈news,u.oneCell'=true) (hn:n<=1073741824) (hB:B<=w.heap.size):
  Calls Tryz.prog 94 #[.slice A n c] w fun e w'=> ∃v',e= .returned v'/\w'.ownsRow w.heap.size 63 5 v' n news/\Below w.heap.size w w':=by
 have q22: ∀(w:World) (a:Option Addr) (n c n' c':Nat),(binOp .eql 37 (.slice a n c) (.slice none n' c')).run Tryz.prog w= .ok (.bool a.isNone) w:=fun w a n c n' c'=>Lib.run_eql_slice_nil w _ _ a n c n' c' Tryz.underlying37
 cases A with
 | none=>
  obtain rfl:n=0:=by
   rcases aed n with h0 | hp
   ·exact h0
   obtain ⟨b,off,he,-⟩:=h.2 hp;cases he
  obtain rfl:news= []:=acD (by simpa using h.1)
  clear h hn h1;go_enter Tryz.func94,Tryz.ntmps94;go_wp2;go_ret
  exact ⟨_,rfl,World.ownsRow_nil _ _ _ _,Below.refl _ _⟩
 | some a=>
  obtain ⟨i0,hi,hz0,hz1,hz2⟩:=info_parts aiJ
  have HH:=ah (h.below ((Below.refl B w).alloc hB (.cells #[] 63)));have H1:=ah h1
  have oP:=ah (qJ w 63 5);have dQ:=ah (show 0+n<=maxLen by unfold maxLen;omega)
  have HL2:=ah (show (0+n)*64<=140737488355328 by omega)
  clear h h1 hn;go_enter Tryz.func94,Tryz.ntmps94
  go_wp2_with (at_builtin;refine Bc (w.alloc (.cells #[] 63)) rfl (.tmp 5) (.tmp 6) 37 rfl w.heap.size 63 i0 (.agg #[.int .i64 0, .string ⟨#[]⟩, .int .i64 0, .int .i64 0, .slice none 0 0]) 5 64 Tryz.underlying37 hi hz0 hz1 hz2 rfl (by decide) (.slice (some ⟨w.heap.size,0,none⟩) 0 0) 0 [] rfl oP.out B (some a) n c news rfl HH.out H1.out dQ.out HL2.out (by simp) ?_)
  intro v9 w9 aN bC dO;have lZ:=ah aN
  have dh:=ah (((Below.refl w.heap.size w).alloc (ab1 _) (.cells #[] 63)).grown bC (by simp) (fun j e=>by cases e;exact ab1 _))
  clear aN bC dO;go_wp2;go_ret;exact ⟨v9,rfl,by simpa using lZ.out,dh.out⟩
theorem own_below {w w':World} {B e k n:Nat} {v:Value} {xs:List Value} (h:w.ownsRow B e k v n xs) (hb:Below w.heap.size w w'):w'.ownsRow B e k v n xs:=
 h.kept (row:=none) ⟨hb.os,hb.tape,hb.output,hb.size,fun j hj _=>hb.block j hj⟩ (by cases hv:v.ownBlock<;> simp)
theorem IY (sep:List UInt8) (m:Nat): ∀l:List (List UInt8),(∀x∈l,x.length<=m)->(Cy.join sep l).length<=l.length*(m+sep.length)
 | [],_=>by simp [Cy.join]
 | [a],h=>by have:=h a (by simp);simp [Cy.join];omega
 | a :: b :: r,h=>by
  have h1:=h a (by simp)
  have ih:=IY sep m (b :: r) (fun x hx=>h x (ada _ hx))
  rw [Cy.join,dA,dA,acd,Nat.add_mul,Nat.one_mul];omega
theorem IZ {k n:Int} {t:List UInt8} (hn:ak.In64 n) (ht:t.length<=1000):(Cy.scalar k n t).length<=4002:=by
 have h1:=oC hn.1 hn.2;have h2:=Yy (ak.u64 n);have h3:=Lex.Ql t;unfold Cy.scalar
 split
 ·split<;> decide
 split
 ·omega
 split<;> omega
theorem I4 (k:Int):(Cy.word k).length<=5:=by
 unfold Cy.word
 repeat' split
 all_goals decide
theorem SN {v:ak.V} (h:ak.check v=0) (hn: ∀n∈v.nums,ak.In64 n):(Cy.parts v).length<=80/\ ∀x∈Cy.parts v,x.length<=4002:=by
 obtain ⟨p1,p2,p3,p4,p5,p6,p7,p8⟩:=ak.yU h;unfold Cy.parts
 refine ⟨by rw [dA,ace,ace];omega,fun x hx=> ?_⟩
 rcases acU.1 hx with hx | hx
 ·obtain ⟨n,hm,rfl⟩:=ad5.1 hx
  exact IZ (hn n hm) (by simp)
 obtain ⟨t,hm,rfl⟩:=ad5.1 hx;exact IZ ⟨by decide,by decide⟩ (YA p7 t hm)
theorem aaF {v:ak.V} (h:ak.check v=0) (hn: ∀n∈v.nums,ak.In64 n) (h0:ak.In64 v.num):(Cy.lit v).length<=400000:=by
 obtain ⟨q1,q2⟩:=SN h hn;have hj:=IY [44,32] 4002 _ q2;have hw:=I4 (v.kind - 4)
 obtain ⟨-,-,-,-,-,p6,-⟩:=ak.yU h;have hs:=IZ (k:=v.kind) (t:=v.text) h0 p6
 have:(Cy.parts v).length*(4002+ [44,32].length)<=80*4004:=alj q1 (by decide)
 unfold Cy.lit
 split
 ·omega
 simp only [dA,acd,adk]
 split
 ·simp only [adk];omega
 simp only [acd];omega
structure PR (W1:World) (l:List (List UInt8)) (A:Option Addr) (n c:Nat) (wx:World):Prop where
 len:l.length=n
 own:wx.ownsRow W1.heap.size 9 1 (.slice A n c) n (l.map ST)
 bel:Below W1.heap.size W1 wx
theorem PR.below {W1 wx wy:World} {l:List (List UInt8)} {A:Option Addr} {n c:Nat} (h:PR W1 l A n c wx) (hb:Below wx.heap.size wx wy):PR W1 l A n c wy:=
 ⟨h.len,own_below h.own hb,h.bel.trans (hb.mono h.bel.size)⟩
theorem PR.next {W1 wx wy:World} {l l':List (List UInt8)} {A A':Option Addr} {n c c':Nat} {x:List UInt8} {z:ByteArray} (h:PR W1 l A n c wx) (hz:(⟨x.toArray⟩:ByteArray)=z) (ho:wy.ownsRow W1.heap.size 9 1 (.slice A' (n+1) c') (n+1) (l.map ST ++ [.string z])) (hb:Below W1.heap.size wx wy) (hl:l'=l ++ [x]):PR W1 l' A' (n+1) c' wy:=by
 subst hl hz;exact ⟨by rw [dA,h.len];rfl,by rw [ade];exact ho,h.bel.trans hb⟩
theorem map_take {α β:Type} {l:List α} {k:Nat} {y:α} (h:l[k]?=some y) (f:α->β):(l.take (k+1)).map f=(l.take k).map f ++ [f y]:=by
 obtain ⟨hk,he⟩:=acy.1 h;rw [aer hk,ade,he];rfl
theorem aaG (B:Nat) (u:Value) (v:ak.V) (w:World) (h:jR w B u v) (hB:B<=w.heap.size) (hL:Laid w):
  Calls Tryz.prog 17 #[u] w fun e w'=>e= .returned (.tuple #[.string ⟨(Cy.rV v).1.toArray⟩, .int .i64 ((Cy.rV v).2:Nat)])/\Below w.heap.size w w':=by
 have hch:=fun (W:World) (hb:Below w.heap.size w W)=>check_any B u v W (h.below (hb.mono hB)) (ab5 hB hb.size)
 have HV:=ah h;obtain ⟨A1,c1,A2,c2,rfl,cO,bP⟩:=h.ex;clear h
 obtain ⟨R,hR⟩: ∃R,Cy.rV v=R:=⟨_,rfl⟩;rw [hR];unfold Cy.rV at hR
 have hcp:=fun h=>ak.yU (v:=v) h
 have hpl:=fun h=>SN (v:=v) h HV.out.nums
 obtain ⟨cv,hcv⟩: ∃c,ak.check v=c:=⟨_,rfl⟩;rw [hcv] at hch hR hcp hpl
 have hpr:Cy.lit v=if v.kind<=4 then Cy.scalar v.kind v.num v.text else [91,58] ++ Cy.word (v.kind - 4) ++(if Cy.parts v= [] then [] else 32 :: Cy.join [44,32] (Cy.parts v)) ++ [93]:=rfl
 have hpt:Cy.parts v=v.nums.map (fun n=>Cy.scalar (v.kind - 4) n []) ++ v.texts.map (fun t=>Cy.scalar (v.kind - 4) 0 t):=rfl
 obtain ⟨pv,hpv⟩: ∃c,Cy.lit v=c:=⟨_,rfl⟩;obtain ⟨pt,adt⟩: ∃c,Cy.parts v=c:=⟨_,rfl⟩
 rw [hpv] at hpr hR;rw [adt] at hpr hpt hpl;clear hcv hpv adt;have uJ:=ah HV.out.nums
 have HI0:=ah HV.out.num;obtain ⟨k0,n0,t0,ns,ts⟩:=v
 simp only at cO bP hch hcp hpr hpt uJ HI0⊢;obtain ⟨nn,hnn⟩: ∃n,ns.length=n:=⟨_,rfl⟩
 obtain ⟨tn,htn⟩: ∃n,ts.length=n:=⟨_,rfl⟩
 obtain ⟨z,hz⟩: ∃z:ByteArray,(⟨t0.toArray⟩:ByteArray)=z:=⟨_,rfl⟩
 have hzs:z.size=t0.length:=by rw [<-hz];exact bf _
 have hzd:z.data.toList=t0:=by rw [<-hz]
 rw [hnn] at cO hch⊢;rw [htn] at bP hch⊢;rw [hz] at hch⊢
 obtain ⟨W1,hW1⟩: ∃W1,w.alloc (.cells #[.int .i64 k0, .int .i64 n0, .string z, .slice A1 nn c1, .slice A2 tn c2] 25)=W1:=⟨_,rfl⟩
 have hb1:Below w.heap.size w W1:=by rw [<-hW1];exact (Below.refl _ w).alloc (ab1 _) _
 have k1:aj W1 w.heap.size 25 #[.int .i64 k0, .int .i64 n0, .string z, .slice A1 nn c1, .slice A2 tn c2]:=by rw [<-hW1];exact aj.new _ _ _
 have xX:=ah (cO.below (hb1.mono hB));have xY:=ah (bP.below (hb1.mono hB))
 have HB1:=ah hb1;have HW1:=ah hW1;have yE:=ah (hch W1 hb1);have ay:=ah hnn
 have aI:=ah htn;have HKB:=ah k1;have dG:=ah hpr;have uQ:=ah hpt;have iP:=ah hpl
 have HR:=ah hR;have bQ:=ah hcp;have lJ:=ah hzs;have HZD:=ah hzd;have HL:=ah hL
 have oQ:=ah hB;obtain ⟨a0,a1,a2,a3,a4,-⟩:=gY k1
 clear cO bP hnn htn hz k1 hb1 hW1 hch hpr hR hcp hzs hzd hL hpl hpt hB HV;have hu:=lD
 go_enter Tryz.func17,Tryz.ntmps17
 go_upto_region 1 with fail
 rw [HW1.out];clear HW1;go_wp2_with fail;refine yE.out.mono ?_;rintro e w2 ⟨rfl,hb2⟩
 have HB2:=ah (HB1.out.trans (hb2.mono HB1.out.size));have Kz:=ah (hb2.mono (ab1 _))
 clear hb2 a0 a1 a2 a3 a4 yE
 obtain ⟨a0,a1,a2,a3,a4,-⟩:=gY (HKB.out.below Kz.out HKB.out.lt);by_cases hc0:cv=0
 case neg=>
  have hr:R=([],cv):=by rw [<-HR.out,ab6 hc0]
  have HRR:=ah hr;have t0:((cv:Int) !=0)=true:=by rw [acV];omega
  clear hr hc0;go_wp2
  go_ret2
  exact ⟨by rw [HRR.out];rfl,HB2.out⟩
 subst hc0;have HRR:=ah (show R=(pv,0) by rw [<-HR.out,ab7 rfl])
 have CG:=ah (bQ.out rfl);have uU:=ah (iP.out rfl);clear bQ iP HR;have hk1:1<=k0:=CG.out.1
 have hk8:k0<=8:=CG.out.2.1;have OT:ak.In64 k0:=⟨by omega,by omega⟩
 by_cases h4:k0<=4
 ·have t4:decide (k0<=4)=true:=abW h4
  have hzz:z.size<=67108864:=by rw [lJ.out];have:=CG.out.2.2.2.2.2.1;omega
  have HC:=ah (RN k0 n0 z w2 OT HI0.out hzz (HL.out.below HB2.out));have HK:=ah OT
  clear OT hzz;go_wp2_with fail;refine HC.out.mono ?_;rintro e w3 ⟨rfl,hb⟩
  have HB3:=ah (HB2.out.trans (hb.mono HB2.out.size));clear hb a0 a1 a2 a3 a4;go_wp2
  go_ret2
  exact ⟨by rw [HRR.out,dG.out,ab7 h4,HZD.out];rfl,HB3.out⟩
 have t4:decide (k0<=4)=false:=abX h4;have OU:5<=k0:=by omega
 obtain ⟨kk,hkk⟩: ∃kk:Int,k0 - 4=kk:=⟨_,rfl⟩;have hkw:ak.In64 kk:=⟨by omega,by omega⟩
 have zS:=ah hkw
 have alX:=ah (show pt=ns.map (fun n=>Cy.scalar kk n []) ++ ts.map (fun t=>Cy.scalar kk 0 t) by rw [<-hkk];exact uQ.out)
 have VD:=dG.out;rw [ab6 h4,hkk] at VD;have adu:=ah VD
 have anO:(nn:Int)<=40:=by have:=CG.out.2.2.2.1;have h2:=ay.out;rw [show ns.length=nn from h2] at this;omega
 have anP:(tn:Int)<=40:=by have:=CG.out.2.2.2.2.1;have h2:=aI.out;rw [show ts.length=tn from h2] at this;omega
 have HKK:=ah hkk;clear uQ dG VD hkw OT;go_wp2_with fail
 go_loopg [33,6] nn (fun g x y wr=> ∃(k c:Nat) (A:Option Addr),x= .int .i64 k/\y= .slice A k c/\k+g=nn/\PR W1 ((ns.take k).map (fun n=>Cy.scalar kk n [])) A k c wr)
 case atStart=>exact ⟨0,0,none,rfl,rfl,by omega,rfl,World.ownsRow_nil _ _ _ _,Kz.out⟩
 obtain ⟨k,c,A,rfl,rfl,hk,hrel⟩:=hrel;have HQ:=ah hrel;have HK:=ah hk
 clear hrel a0 a1 a2 a3 a4
 obtain ⟨a0,a1,a2,a3,a4,-⟩:=gY (HKB.out.below HQ.out.bel HKB.out.lt);cases gk with
 | succ g=>
  have hkn:k<nn:=by omega
  have dD:(k:Int)<nn:=by omega
  obtain ⟨p,o,x,rfl,-,hx,hp⟩:=(xX.out.below (HQ.out.bel.mono (ab5 oQ.out HB1.out.size))).cell hkn
  rw [acJ] at hx;obtain ⟨y,hy,rfl⟩:=ac7.1 hx;unfold I64 at hp;have adv:=uJ.out y (acf hy)
  have hcall:=RN kk y ⟨#[]⟩ wr zS.out adv (by decide) (HL.out.below (HB1.out.trans (HQ.out.bel.mono HB1.out.size)))
  obtain ⟨zx,hzx⟩: ∃zx:ByteArray,(⟨(Cy.scalar kk y []).toArray⟩:ByteArray)=zx:=⟨_,rfl⟩
  rw [show ((⟨#[]⟩:ByteArray).data.toList)= [] from rfl,hzx] at hcall
  have HC:=ah hcall;have sW:=ah hzx;have hmt:=map_take hy (fun n=>Cy.scalar kk n [])
  obtain ⟨LL,tJ⟩: ∃LL,(ns.take k).map (fun n=>Cy.scalar kk n [])=LL:=⟨_,rfl⟩
  rw [tJ] at HQ hmt;have KA:=ah hmt;clear hx hy adv hcall hzx hkn hk tJ hmt
  go_wp2_with fail;refine HC.out.mono ?_;rintro e w3 ⟨rfl,hb3⟩
  have qo:=ah (HQ.out.below hb3);clear hb3 HQ;have hbg:=qo.out.bel.size
  have hkl:k<1073741824:=by omega
  go_wp2_with (at_builtin;refine rP rfl (.tmp 37) (.tmp 41) 23 9 (.string ⟨#[]⟩) 16 Tryz.underlying23 Fq rfl (by decide) rfl W1.heap.size (.slice A k c) k _ w3 rfl qo.out.own (.string zx) rfl rfl hkl hbg ?_)
  intro v9 w9 aN bC dO aF;obtain ⟨A9,c9,rfl⟩:=aJ aN
  have iC:=ah (qo.out.next sW.out aN aF KA.out);clear aN bC dO aF a0 a1 a2 a3 a4;go_wp2
  go_roundg g
  case measure=>omega
  exact ⟨k+1,c9,A9,int_eq (by omega),rfl,by have:=HK.out;omega,iC.out⟩
 | zero=>
  obtain rfl:k=nn:=by omega
  have hq:=HQ.out;rw [acg (by have:=ay.out;omega)] at hq
  have ql:=ah hq;clear hq HQ hk;go_wp2_with fail
  go_loopg [47,6] tn (fun g x y wr=> ∃(j c:Nat) (A:Option Addr),x= .int .i64 j/\y= .slice A (k+j) c/\j+g=tn/\PR W1 (ns.map (fun n=>Cy.scalar kk n []) ++(ts.take j).map (fun t=>Cy.scalar kk 0 t)) A (k+j) c wr)
  case atStart=>exact ⟨0,c,A,rfl,rfl,by omega,by rw [akd,aek,acK];exact ql.out⟩
  obtain ⟨j,c,A,rfl,rfl,hk,hrel⟩:=hrel;have HQ:=ah hrel;have HK:=ah hk
  clear hrel a0 a1 a2 a3 a4
  obtain ⟨a0,a1,a2,a3,a4,-⟩:=gY (HKB.out.below HQ.out.bel HKB.out.lt);cases gk with
  | succ g=>
   have hkn:j<tn:=by omega
   have dD:(j:Int)<tn:=by omega
   obtain ⟨p,o,x,rfl,-,hx,hp⟩:=(xY.out.below (HQ.out.bel.mono (ab5 oQ.out HB1.out.size))).cell hkn
   rw [acJ] at hx;obtain ⟨y,hy,rfl⟩:=ac7.1 hx;unfold ST at hp
   have hyl:=YA CG.out.2.2.2.2.2.2.1 y (acf hy)
   obtain ⟨zy,hzy⟩: ∃zy:ByteArray,(⟨y.toArray⟩:ByteArray)=zy:=⟨_,rfl⟩;rw [hzy] at hp
   have VE:zy.data.toList=y:=by rw [<-hzy]
   have hcall:=RN kk 0 zy wr zS.out ⟨by decide,by decide⟩ (by rw [Lib.size_eq,VE];omega) (HL.out.below (HB1.out.trans (HQ.out.bel.mono HB1.out.size)))
   obtain ⟨zx,hzx⟩: ∃zx:ByteArray,(⟨(Cy.scalar kk 0 y).toArray⟩:ByteArray)=zx:=⟨_,rfl⟩
   rw [VE,hzx] at hcall;have HC:=ah hcall;have sW:=ah hzx
   have hmt:=map_take hy (fun t=>Cy.scalar kk 0 t)
   obtain ⟨LL,tJ⟩: ∃LL,ns.map (fun n=>Cy.scalar kk n []) ++(ts.take j).map (fun t=>Cy.scalar kk 0 t)=LL:=⟨_,rfl⟩
   have adw:ns.map (fun n=>Cy.scalar kk n []) ++(ts.take (j+1)).map (fun t=>Cy.scalar kk 0 t)=LL ++ [Cy.scalar kk 0 y]:=by rw [hmt,<-tJ,acF]
   rw [tJ] at HQ;have KA:=ah adw;have Gi:=ah hzy
   clear hx hy hcall hzx hkn hk tJ hmt adw hyl hzy VE;go_wp2_with fail
   refine HC.out.mono ?_;rintro e w3 ⟨rfl,hb3⟩;have qo:=ah (HQ.out.below hb3);clear hb3 HQ
   have hbg:=qo.out.bel.size;obtain ⟨kj,hkj⟩: ∃m,k+j=m:=⟨_,rfl⟩;rw [hkj] at qo⊢
   have hkl:kj<1073741824:=by omega
   have Us:=ah hkj;clear hkj
   go_wp2_with (at_builtin;refine rP rfl (.tmp 51) (.tmp 55) 23 9 (.string ⟨#[]⟩) 16 Tryz.underlying23 Fq rfl (by decide) rfl W1.heap.size (.slice A kj c) kj _ w3 rfl qo.out.own (.string zx) rfl rfl hkl hbg ?_)
   intro v9 w9 aN bC dO aF;obtain ⟨A9,c9,rfl⟩:=aJ aN
   have iC:=ah (qo.out.next sW.out aN aF KA.out);clear aN bC dO aF a0 a1 a2 a3 a4;go_wp2
   go_roundg g
   case measure=>omega
   exact ⟨j+1,c9,A9,int_eq (by omega),by rw [<-Us.out];rfl,by have:=HK.out;omega,by have:=iC.out;rw [<-Us.out] at this;exact this⟩
  | zero=>
   obtain rfl:j=tn:=by omega
   have hq:=HQ.out;rw [acg (by have:=aI.out;omega),<-alX.out] at hq
   obtain ⟨kj,hkj⟩: ∃m,k+j=m:=⟨_,rfl⟩;rw [hkj] at hq⊢;have anQ:(kj:Int)<=80:=by omega
   have ql:=ah hq;have hjl:=IY [44,32] 4002 pt uU.out.2
   have adx:pt.length*(4002+ [44,32].length)<=80*4004:=alj uU.out.1 (by decide)
   have KC:=ah (ab5 hjl adx);have hwl:=I4 kk
   obtain ⟨wz,hwz⟩: ∃wz:ByteArray,(⟨(Cy.word kk).toArray⟩:ByteArray)=wz:=⟨_,rfl⟩
   have anR:wz.size<=5:=by rw [<-hwz,bf];exact hwl
   have ady:wz.data.toList=Cy.word kk:=by rw [<-hwz]
   have hkc:=RJ kk wr zS.out;rw [hwz] at hkc;have HKC:=ah hkc;have HWZ:=ah ady
   clear hq HQ hk hkj hjl adx hwl hwz hkc ady a0 a1 a2 a3 a4;go_wp2_with fail
   refine HKC.out.mono ?_;rintro e w3 ⟨rfl,rfl⟩
   have hq1:(⟨#[91,58]⟩ ++ wz:ByteArray).size<=7:=by rw [adG];show 2+wz.size<=7;omega
   by_cases h0:pt= []
   ·have hk0:kj=0:=by rw [<-ql.out.len,h0];rfl
    subst hk0
    have ny:=ah (show (⟨pv.toArray⟩:ByteArray)=⟨#[91,58]⟩ ++ wz ++⟨#[93]⟩ by apply adW;rw [adu.out,ab7 h0,<-HWZ.out];simp)
    have kJ:=ah (HB1.out.trans (ql.out.bel.mono HB1.out.size));clear h0;go_wp2
    go_ret2
    exact ⟨by rw [HRR.out,ny.out];rfl,kJ.out⟩
   have hk0:(0:Int)<kj:=by
    have:=ql.out.len;have h1:0<pt.length:=adY.2 h0;omega
   have tk:decide (0<kj)=true:=abW (by omega)
   have hjc:=aac W1.heap.size 9 A c pt wr kj ql.out.len (by omega) ql.out.own (by have:=KC.out;omega)
   obtain ⟨jz,hjz⟩: ∃jz:ByteArray,(⟨(Cy.join [44,32] pt).toArray⟩:ByteArray)=jz:=⟨_,rfl⟩
   rw [hjz] at hjc;have hjs:jz.size<=320320:=by rw [<-hjz,bf];have:=KC.out;omega
   have ny:=ah (show (⟨pv.toArray⟩:ByteArray)=⟨#[91,58]⟩ ++ wz ++(⟨#[32]⟩ ++ jz) ++⟨#[93]⟩ by apply adW;rw [adu.out,ab6 h0,<-HWZ.out,<-hjz];simp)
   have VF:=ah hjc;clear h0 hjc hjz
   have hq2:(⟨#[32]⟩ ++ jz:ByteArray).size<=320321:=by rw [adG];show 1+jz.size<=320321;omega
   have hq3:(⟨#[91,58]⟩ ++ wz ++(⟨#[32]⟩ ++ jz):ByteArray).size<=320328:=by rw [adG];omega
   go_wp2_with fail;refine VF.out.mono ?_;rintro e w4 ⟨rfl,hb4⟩
   have kJ:=ah (HB1.out.trans ((ql.out.bel.trans (hb4.mono ql.out.bel.size)).mono HB1.out.size))
   clear hb4;go_wp2
   go_ret2
   exact ⟨by rw [HRR.out,ny.out];rfl,kJ.out⟩
end Go.Proofs.YtoofbflplhbpbaaGreatDoor
namespace Go.Proofs.YtoofbflplhbpbaaGreatDoor
open Go.RowKit Go.Sort
theorem vO {β:Type} {V:World} {base T k n c i j:Nat} {A:Option Addr} {l1 l2:List (β×List Value)} {x:β} {cs:List Value} (h:V.ownsRow base T k (.slice A n c) n ((l1 ++(x,cs) :: l2).flatMap Prod.snd)) (h1: ∀y∈l1,y.2.length=k) (hi:l1.length=i) (hc:cs.length=k) (hn:i<n) (hj:j<k):
  ∃g,A=some ⟨g,0,none⟩/\base<=g/\V.cell? ⟨g,i*k+j,none⟩=cs[j]?/\V.frozen? ⟨g,i*k+j,none⟩=false/\ ∀u,(V.setCell ⟨g,i*k+j,none⟩ u).ownsRow base T k (.slice A n c) n ((l1 ++(x,cs.set j u) :: l2).flatMap Prod.snd):=by
 have ht:i*k+j<n*k:=by have:=akh k (show i+1<=n from hn);rw [alm] at this;omega
 obtain ⟨g,hA,hg,hcell,hf,hs⟩:=qI h ht;have hlen:=IX (f:=Prod.snd) h1
 refine ⟨g,hA,hg, ?_,hf,fun u=> ?_⟩
 ·rw [hcell,ad4,adz,aei (by rw [hlen,hi];omega),hlen,hi,akD,aky (by rw [hc];exact hj)]
 have:=hs u;rw [<-hi] at this⊢
 rwa [aiq h1 (by rw [hc];exact hj)] at this
theorem dJ.kept {w w':World} {B:Nat} {x:Gr.P×List Value} {e' n' size':Nat} {r:Value} {ys:List Value} (h:dJ w B x) (hg:w.grownBy w' r.ownBlock) (hr:w.ownsRow B e' size' r n' ys) (h1:e'≠2) (h2:e'≠9):dJ w' B x:=by
 obtain ⟨s,t,e,o1,o2⟩:=h;exact ⟨s,t,e,Bg o1 hg hr h1,Bg o2 hg hr h2⟩
theorem dJ.aaH {w w':World} {B:Nat} {x:Gr.P×List Value} (h:dJ w B x) (hb:Below w.heap.size w w'):dJ w' B x:=by
 obtain ⟨s,t,e,o1,o2⟩:=h;exact ⟨s,t,e,own_below o1 hb,own_below o2 hb⟩
theorem dJ.len {w:World} {B:Nat} {x:Gr.P×List Value} (h:dJ w B x):x.2.length=6:=by
 obtain ⟨s,t,e,-,-⟩:=h;rw [e];rfl
theorem aQ.len {w:World} {B:Nat} {p:Gr.P} {cs:List Value} (h:aQ w B p cs):cs.length=6:=by
 obtain ⟨An,cn,At,ct,e,-,-⟩:=h;rw [e];rfl
structure KD (w:World) (B:Nat) (ps:List Gr.P) (A:Option Addr) (n c i:Nat) (V:World):Prop where
 ex: ∃l1 l2:List (Gr.P×List Value),l1.length=i/\(l1 ++ l2).map Prod.fst=ps/\(∀x∈l1,dJ V w.heap.size x)/\(∀x∈l2,aQ w B x.1 x.2)/\V.ownsRow w.heap.size 61 6 (.slice A n c) n ((l1 ++ l2).flatMap Prod.snd)
 bel:Below w.heap.size w V
theorem aiL {w:World} {B:Nat} {x:Gr.P×List Value} (h:dJ w B x): ∃e:EP,uz e=x.2/\e.1=x.1.key:=by
 obtain ⟨s,t,e,h1,h2⟩:=h;obtain ⟨As,cs,rfl⟩:=aJ h1;obtain ⟨At,ct,rfl⟩:=aJ h2
 exact ⟨(x.1.key,x.1.val.kind,x.1.val.num,x.1.val.text,(As,x.1.val.nums.length,cs),(At,x.1.val.texts.length,ct)),e.symm,rfl⟩
theorem KD.sorted {w V:World} {B n c g:Nat} {ps:List Gr.P} (h:KD w B ps (some ⟨g,0,none⟩) n c n V) (hn:ps.length=n) (hd:(ps.map Gr.P.key).Nodup): ∃d:Array EP,d.size=n/\RowK uz 6 V g 0 d/\
  ∀V' d',d'.size=n->SWK uz 6 V g 0 d' V'->fG.bg G5 d'.toList->d'.toList.Perm d.toList->aV 61 V' w.heap.size (.slice (some ⟨g,0,none⟩) n c) (Gr.uo ps)/\Below w.heap.size w V':=by
 obtain ⟨l1,l2,h1,h2,h3,-,h5⟩:=h.ex
 have hl2:l2= []:=by
  have:=ab8 List.length h2;rw [ace,dA,h1,hn] at this;exact acD (by omega)
 subst hl2;rw [acK] at h2 h5
 obtain ⟨q,q1,q2⟩:=NC (enc:=uz) (ka:=fun e:EP=>e.1) (kb:=Gr.P.key) (fun x hx=>aiL (h3 x hx))
 have hq:q.length=n:=by rw [<-h1,<-q1,ace]
 have e1:=ND (enc:=uz) (fun y hy=>(q2 y hy).1)
 rw [q1] at e1;have hk: ∀x,(uz x).length=6:=fun x=>rfl
 refine ⟨(q.map Prod.snd).toArray,by simp [hq],SE hk (fun x v hv=> ?_) (by rw [ak3,e1];exact h5) (by simp [hq]),fun V' d' hs S hsrt hp=> ?_⟩
 ·simp only [uz,adK,aly,anL] at hv
  rcases hv with rfl | rfl | rfl | rfl | rfl | rfl<;> rfl
 obtain ⟨o1,o2⟩:=SH hk h5 hs S;rw [ak3] at hp
 obtain ⟨l',p1,p2,p3⟩:=SL SK (ka:=fun e:EP=>e.1) q1 q2 hp hsrt (by rw [h2];exact hd)
 rw [h2] at p3;have hlen:(Gr.uo ps).length=n:=by rw [<-hn];exact (aku _ _).length_eq
 refine ⟨⟨l',p3,fun x hx=>(h3 x (p1.mem_iff.1 hx)).kept (r:= .slice (some ⟨g,0,none⟩) n c) o2 h5 (by decide) (by decide),by rw [hlen,<-p2];exact o1⟩,h.bel.grown o2 h.bel.size (fun k hk=>(World.ownsRow.lt h5 k hk).1)⟩
theorem aaI (B:Nat) (A:Option Addr) (c:Nat) (ps:List Gr.P) (w:World) (h:cZ w B 6 (aQ w B) A ps) (hB:B<=w.heap.size) (hl:ps.length<=1073741824) (hok: ∀p∈ps,pV p) (hd:(ps.map Gr.P.key).Nodup):
  Calls Tryz.prog 97 #[.slice A ps.length c] w fun e w'=> ∃v',e= .returned v'/\aV 61 w' w.heap.size v' (Gr.uo ps)/\Below w.heap.size w w':=by
 obtain ⟨lp,hp1,hp2,hr⟩:=h.pairs;obtain ⟨n,hn⟩: ∃n,ps.length=n:=⟨_,rfl⟩
 have hone: ∀u∈lp.flatMap Prod.snd,u.oneCell'=true:=fun u hu=>by
  obtain ⟨x,hx,hu⟩:=ad1.1 hu;obtain ⟨⟨An,cn,At,ct,e,-,-⟩,-⟩:=hp2 x hx;rw [e] at hu
  simp only [adK,aly,anL] at hu
  rcases hu with rfl | rfl | rfl | rfl | rfl | rfl<;> rfl
 rw [hn] at hr hl⊢;have wu:=ah (aiG B A c n _ w hr hone hl hB);have OV:=ah hp1
 have HP2:=ah hp2;have HN:=ah hn;have aK:=ah hok;have HD:=ah hd;have hBw:=hB
 clear h hone hr hp1 hp2 hn hok hd;go_enter Tryz.func97,Tryz.ntmps97;go_wp2_with fail
 refine wu.out.mono ?_;rintro e w1 ⟨v1,rfl,ho,hb⟩;obtain ⟨A1,c1,rfl⟩:=aJ ho
 have HS:=ah (show KD w B ps A1 n c1 0 w1 from ⟨⟨[],lp,rfl,OV.out,by simp,fun x hx=>(HP2.out x hx).1,ho⟩,hb⟩)
 clear ho hb wu;go_wp2_with fail
 go_loopg [9] n (fun kx s9 wr=> ∃i:Nat,s9= .int .i64 i/\i+kx=n/\KD w B ps A1 n c1 i wr)
 case atStart=>exact ⟨0,rfl,by omega,HS.out⟩
 obtain ⟨i,rfl,hk,hs⟩:=hrel;have HR:=ah hs;clear hs HS;cases gk with
 | zero=>
  obtain rfl:i=n:=by omega
  cases A1 with
  | none=>
   obtain ⟨l1,l2,h1,h2,-,-,h5⟩:=HR.out.ex
   rcases h5.2 with ⟨e,h0⟩ |⟨g,cap,cur,e,-⟩
   ·cases e
    have hp0:ps= []:=acD HN.out;subst hp0;go_wp2_with fail;refine (aiB _ _ _ _).mono ?_
    rintro e w' ⟨rfl,rfl⟩;go_wp2;go_ret
    exact ⟨_,rfl,by rw [show Gr.uo []= [] from alz];exact aV.nil _ _ _,HR.out.bel⟩
   cases e
  | some a=>
   obtain ⟨g,rfl⟩: ∃g,a=⟨g,0,none⟩:=by
    obtain ⟨l1,l2,h1,h2,-,-,h5⟩:=HR.out.ex
    rcases h5.2 with ⟨e,h0⟩ |⟨g,cap,cur,e,-⟩
    ·cases e
    cases e;exact ⟨g,rfl⟩
   obtain ⟨d,d1,d2,d3⟩:=HR.out.sorted HN.out HD.out;have Ej:=ah (aiA (cap:=c1) d2 d1 hl)
   have HD3:=ah d3;clear d1 d2 d3;go_wp2_with fail;refine Ej.out.mono ?_
   rintro e w' ⟨rfl,d',h1,h2,h3,h4⟩;have HF:=ah (HD3.out w' d' h1 h2 h3 h4)
   clear h1 h2 h3 h4;go_wp2;go_ret;exact ⟨_,rfl,HF.out⟩
 | succ kq=>
  have hin:i<n:=by omega
  have G6:(i:Int)<(n:Int):=by omega
  obtain ⟨l1,l2,h1,h2,h3,h4,h5⟩:=HR.out.ex;have hbel:=HR.out.bel
  obtain ⟨⟨p,cs⟩,l3,rfl⟩: ∃x l3,l2=x :: l3:=by
   cases l2 with
   | nil=>
    have:=ab8 List.length h2;rw [acK,ace,h1,HN.out] at this;omega
   | cons x r=>exact ⟨x,r,rfl⟩
  obtain ⟨An,cn,At,ct,rfl,cO,bP⟩:=(show aQ w B p cs from h4 (p,cs) (am5 ..))
  have gV:=aK.out p (by rw [<-h2];simp)
  have hpl: ∀y∈l1,y.2.length=6:=fun y hy=>(h3 y hy).len
  obtain ⟨nl,hnl⟩: ∃x,p.val.nums.length=x:=⟨_,rfl⟩
  obtain ⟨tl,htl⟩: ∃x,p.val.texts.length=x:=⟨_,rfl⟩;have Ut:nl<=1073741824:=hnl▸gV.val.nl
  have Uu:tl<=1073741824:=htl▸gV.val.sl;rw [hnl] at cO h5;rw [htl] at bP h5
  have hw1:w.heap.size<=wr.heap.size:=hbel.size
  obtain ⟨g,rfl,hg,c4,f4,-⟩:=vO (j:=4) h5 hpl h1 rfl hin (by decide)
  simp only [acB,ab9] at c4
  have kV:=ah (aiF B An cn nl _ wr (cO.below (hbel.mono hBw)) (fun u hu=>by obtain ⟨y,-,rfl⟩:=ad5.1 hu;rfl) Ut (ab5 hBw hw1))
  have HH:=ah (And.intro h1 (And.intro h2 (And.intro h3 (And.intro h4 (And.intro hpl (And.intro hnl htl))))))
  have H5:=ah h5;have jV:=ah bP;have HG:=ah hg;have HB:=ah hbel
  clear h1 h2 h3 h4 h5 hpl hnl htl cO bP hg HR hbel gV;go_wp2_with fail
  refine kV.out.mono ?_;rintro e w2 ⟨v2,rfl,o2,b2⟩;obtain ⟨A2,c2,rfl⟩:=aJ o2
  have hh:=HH.out;have r2:=own_below H5.out b2
  obtain ⟨g',e',-,VG,f4',KE⟩:=vO (j:=4) r2 hh.2.2.2.2.1 hh.1 rfl hin (by decide)
  cases e';simp only [acB,ab9] at VG;have row3:=KE (.slice A2 nl c2)
  simp only [acO,acN] at row3
  obtain ⟨W3,hW3⟩: ∃x,w2.setCell ⟨g,i*6+4,none⟩ (.slice A2 nl c2)=x:=⟨_,rfl⟩
  have hgs:w2.grownBy W3 (some g):=hW3▸grownBy_set w2 ⟨g,i*6+4,none⟩ _;rw [hW3] at row3
  have b3:Below w.heap.size w W3:=hW3▸(HB.out.trans (b2.mono hw1)).setCell HG.out _
  obtain ⟨g',e',-,c5,f5,-⟩:=vO (j:=5) row3 hh.2.2.2.2.1 hh.1 rfl hin (by decide)
  cases e';simp only [acB,ab9] at c5
  have HC2:=ah (aaD B At ct tl _ W3 (jV.out.below (b3.mono hBw)) (fun u hu=>by obtain ⟨y,-,rfl⟩:=ad5.1 hu;rfl) Uu (ab5 hBw b3.size))
  have o3:=Bg (x:= .slice (some ⟨g,0,none⟩) n c1) (jX o2 hw1) hgs r2 (by decide)
  have hp3: ∀x∈l1,dJ W3 w.heap.size x:=fun x hx=>((hh.2.2.1 x hx).aaH b2).kept (r:= .slice (some ⟨g,0,none⟩) n c1) hgs r2 (by decide) (by decide)
  have HX:=ah (And.intro row3 (And.intro o3 (And.intro hp3 b3)));have sZ:=ah hh
  clear o2 b2 r2 KE hgs row3 b3 o3 hp3 hh HH H5 jV HB kV;go_wp2_with fail
  refine HC2.out.mono ?_;rintro e w4 ⟨v4,rfl,o4,b4⟩;obtain ⟨A4,c6,rfl⟩:=aJ o4;clear hW3
  obtain ⟨row3,o3,hp3,b3⟩:=HX.out;have hh:=sZ.out;have r4:=own_below row3 b4
  obtain ⟨g',e',-,c7,f7,st5⟩:=vO (j:=5) r4 hh.2.2.2.2.1 hh.1 rfl hin (by decide)
  cases e';simp only [acB,ab9] at c7;have OW:=st5 (.slice A4 tl c6)
  simp only [acO,acN] at OW
  obtain ⟨W5,iG⟩: ∃x,w4.setCell ⟨g,i*6+5,none⟩ (.slice A4 tl c6)=x:=⟨_,rfl⟩
  have hgs:w4.grownBy W5 (some g):=iG▸grownBy_set w4 ⟨g,i*6+5,none⟩ _;rw [iG] at OW
  have b5:Below w.heap.size w W5:=iG▸(b3.trans (b4.mono b3.size)).setCell HG.out _
  have o5:=Bg (x:= .slice (some ⟨g,0,none⟩) n c1) (jX o4 b3.size) hgs r4 (by decide)
  have o6:=Bg (x:= .slice (some ⟨g,0,none⟩) n c1) (own_below o3 b4) hgs r4 (by decide)
  have hs:=ah (show KD w B ps (some ⟨g,0,none⟩) n c1 (i+1) W5 from by
   refine ⟨⟨l1 ++ [(p, [ST p.key, .int .i64 p.val.kind, .int .i64 p.val.num,ST p.val.text, .slice A2 nl c2, .slice A4 tl c6])],l3,by simp [hh.1],by simpa using hh.2.1,fun x hx=> ?_,fun x hx=>hh.2.2.2.1 x (ada _ hx),by simpa using OW⟩,b5⟩
   rcases acU.1 hx with hx | hx
   ·exact ((hp3 x hx).aaH b4).kept (r:= .slice (some ⟨g,0,none⟩) n c1) hgs r4 (by decide) (by decide)
   rw [adg.1 hx];refine ⟨_,_,rfl, ?_, ?_⟩
   ·show W5.ownsRow w.heap.size 2 1 (.slice A2 nl c2) p.val.nums.length (p.val.nums.map I64)
    rw [hh.2.2.2.2.2.1];exact o6
   show W5.ownsRow w.heap.size 9 1 (.slice A4 tl c6) p.val.texts.length (p.val.texts.map ST)
   rw [hh.2.2.2.2.2.2];exact o5)
  clear o4 b4 HX hh r4 st5 OW hgs b5 o5 o6 row3 o3 hp3 b3 sZ HC2;go_wp2_with fail
  go_roundg kq
  case measure=>omega
  exact ⟨i+1,by simp,by omega,hs.out⟩
end Go.Proofs.YtoofbflplhbpbaaGreatDoor
