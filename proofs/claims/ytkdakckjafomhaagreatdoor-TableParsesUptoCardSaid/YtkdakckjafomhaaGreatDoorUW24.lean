/- Contracts and plain laws,part 24. -/
import Derived.Test.YtkdakckjafomhaaGreatDoorUW23
set_option maxHeartbeats 64000000
set_option maxRecDepth 1000000
set_option linter.all false
namespace Go.Proofs.YtkdakckjafomhaaGreatDoor
open Go.RowKit
theorem oM (w:World) (e:TypeId) (size:Nat):(w.alloc (.cells #[] e)).ownsRow w.heap.size e size (.slice (some ⟨w.heap.size,0,none⟩) 0 0) 0 []:=
 ⟨by simp,.inr ⟨w.heap.size,0,#[],rfl,ac4 _,heap_alloc_new w _,by simp,by simp,by simp,by simp⟩⟩
theorem aki:(Tryz.prog.info? 5).map (fun i=>(i.zero,i.size,i.bytes))=some (some (.int .u8 0),1,1):=by kernel_rfl
theorem akj (B:Nat) (A:Option Addr) (c n:Nat) (news:List Value) (w:World) (h:Reads w B 1 A n news) (h1: ∀u∈news,u.oneCell'=true) (hn:n<=1073741824) (hB:B<=w.heap.size):
  Calls Tryz.prog 224 #[.slice A n c] w fun e w'=> ∃v',e=.returned v'/\w'.ownsRow w.heap.size 5 1 v' n news/\Below w.heap.size w w':=by
 have q22: ∀(w:World) (a:Option Addr) (n c n' c':Nat),(binOp .eql 124 (.slice a n c) (.slice none n' c')).run Tryz.prog w=.ok (.bool a.isNone) w:=fun w a n c n' c'=>Lib.run_eql_slice_nil w _ _ a n c n' c' Tryz.underlying124
 cases A with
 |none=>
  obtain rfl:n=0:=by
   rcases afv n with h0|hp
   ·exact h0
   obtain⟨b,off,he,-⟩:=h.2 hp;cases he
  obtain rfl:news=[]:=adB (by simpa using h.1)
  clear h hn h1;go_enter Tryz.func224,Tryz.ntmps224;go_wp2;go_ret
  exact⟨_,rfl,World.ownsRow_nil _ _ _ _,Below.refl _ _⟩
 |some a=>
  obtain⟨i0,hi,hz0,hz1,hz2⟩:=info_parts aki
  have HH:=ah (h.below ((Below.refl B w).alloc hB (.cells #[] 5)));have H1:=ah h1
  have nH:=ah (oM w 5 1);have mD:=ah (show 0+n<=maxLen by unfold maxLen;omega)
  have HL2:=ah (show(0+n)*1<=140737488355328 by omega)
  clear h h1 hn;go_enter Tryz.func224,Tryz.ntmps224
  go_wp2_with (at_builtin;refine y5 (w.alloc (.cells #[] 5)) rfl (.tmp 5) (.tmp 6) 124 rfl w.heap.size 5 i0 (.int .u8 0) 1 1 Tryz.underlying124 hi hz0 hz1 hz2 rfl (by decide) (.slice (some ⟨w.heap.size,0,none⟩) 0 0) 0 [] rfl nH.out B (some a) n c news rfl HH.out H1.out mD.out HL2.out (by simp) ?_)
  intro v9 w9 aJ bI dD;have fJ:=ah aJ
  have bg:=ah (((Below.refl w.heap.size w).alloc (ac4 _) (.cells #[] 5)).grown bI (by simp) (fun j e=>by cases e;exact ac4 _))
  clear aJ bI dD;go_wp2;go_ret;exact⟨v9,rfl,by simpa using fJ.out,bg.out⟩
theorem akk:(Tryz.prog.info? 2).map (fun i=>(i.zero,i.size,i.bytes))=some (some (.int .i64 0),1,8):=by kernel_rfl
theorem akl (B:Nat) (A:Option Addr) (c n:Nat) (news:List Value) (w:World) (h:Reads w B 1 A n news) (h1: ∀u∈news,u.oneCell'=true) (hn:n<=1073741824) (hB:B<=w.heap.size):
  Calls Tryz.prog 81 #[.slice A n c] w fun e w'=> ∃v',e=.returned v'/\w'.ownsRow w.heap.size 2 1 v' n news/\Below w.heap.size w w':=by
 have q22: ∀(w:World) (a:Option Addr) (n c n' c':Nat),(binOp .eql 35 (.slice a n c) (.slice none n' c')).run Tryz.prog w=.ok (.bool a.isNone) w:=fun w a n c n' c'=>Lib.run_eql_slice_nil w _ _ a n c n' c' Tryz.underlying35
 cases A with
 |none=>
  obtain rfl:n=0:=by
   rcases afv n with h0|hp
   ·exact h0
   obtain⟨b,off,he,-⟩:=h.2 hp;cases he
  obtain rfl:news=[]:=adB (by simpa using h.1)
  clear h hn h1;go_enter Tryz.func81,Tryz.ntmps81;go_wp2;go_ret
  exact⟨_,rfl,World.ownsRow_nil _ _ _ _,Below.refl _ _⟩
 |some a=>
  obtain⟨i0,hi,hz0,hz1,hz2⟩:=info_parts akk
  have HH:=ah (h.below ((Below.refl B w).alloc hB (.cells #[] 2)));have H1:=ah h1
  have nH:=ah (oM w 2 1);have mD:=ah (show 0+n<=maxLen by unfold maxLen;omega)
  have HL2:=ah (show(0+n)*8<=140737488355328 by omega)
  clear h h1 hn;go_enter Tryz.func81,Tryz.ntmps81
  go_wp2_with (at_builtin;refine y5 (w.alloc (.cells #[] 2)) rfl (.tmp 5) (.tmp 6) 35 rfl w.heap.size 2 i0 (.int .i64 0) 1 8 Tryz.underlying35 hi hz0 hz1 hz2 rfl (by decide) (.slice (some ⟨w.heap.size,0,none⟩) 0 0) 0 [] rfl nH.out B (some a) n c news rfl HH.out H1.out mD.out HL2.out (by simp) ?_)
  intro v9 w9 aJ bI dD;have fJ:=ah aJ
  have bg:=ah (((Below.refl w.heap.size w).alloc (ac4 _) (.cells #[] 2)).grown bI (by simp) (fun j e=>by cases e;exact ac4 _))
  clear aJ bI dD;go_wp2;go_ret;exact⟨v9,rfl,by simpa using fJ.out,bg.out⟩
theorem Ah:(Tryz.prog.info? 9).map (fun i=>(i.zero,i.size,i.bytes))=some (some (.string ⟨#[]⟩),1,16):=by kernel_rfl
theorem abx (B:Nat) (A:Option Addr) (c n:Nat) (news:List Value) (w:World) (h:Reads w B 1 A n news) (h1: ∀u∈news,u.oneCell'=true) (hn:n<=1073741824) (hB:B<=w.heap.size):
  Calls Tryz.prog 35 #[.slice A n c] w fun e w'=> ∃v',e=.returned v'/\w'.ownsRow w.heap.size 9 1 v' n news/\Below w.heap.size w w':=by
 have q22: ∀(w:World) (a:Option Addr) (n c n' c':Nat),(binOp .eql 34 (.slice a n c) (.slice none n' c')).run Tryz.prog w=.ok (.bool a.isNone) w:=fun w a n c n' c'=>Lib.run_eql_slice_nil w _ _ a n c n' c' Tryz.underlying34
 cases A with
 |none=>
  obtain rfl:n=0:=by
   rcases afv n with h0|hp
   ·exact h0
   obtain⟨b,off,he,-⟩:=h.2 hp;cases he
  obtain rfl:news=[]:=adB (by simpa using h.1)
  clear h hn h1;go_enter Tryz.func35,Tryz.ntmps35;go_wp2;go_ret
  exact⟨_,rfl,World.ownsRow_nil _ _ _ _,Below.refl _ _⟩
 |some a=>
  obtain⟨i0,hi,hz0,hz1,hz2⟩:=info_parts Ah
  have HH:=ah (h.below ((Below.refl B w).alloc hB (.cells #[] 9)));have H1:=ah h1
  have nH:=ah (oM w 9 1);have mD:=ah (show 0+n<=maxLen by unfold maxLen;omega)
  have HL2:=ah (show(0+n)*16<=140737488355328 by omega)
  clear h h1 hn;go_enter Tryz.func35,Tryz.ntmps35
  go_wp2_with (at_builtin;refine y5 (w.alloc (.cells #[] 9)) rfl (.tmp 5) (.tmp 6) 34 rfl w.heap.size 9 i0 (.string ⟨#[]⟩) 1 16 Tryz.underlying34 hi hz0 hz1 hz2 rfl (by decide) (.slice (some ⟨w.heap.size,0,none⟩) 0 0) 0 [] rfl nH.out B (some a) n c news rfl HH.out H1.out mD.out HL2.out (by simp) ?_)
  intro v9 w9 aJ bI dD;have fJ:=ah aJ
  have bg:=ah (((Below.refl w.heap.size w).alloc (ac4 _) (.cells #[] 9)).grown bI (by simp) (fun j e=>by cases e;exact ac4 _))
  clear aJ bI dD;go_wp2;go_ret;exact⟨v9,rfl,by simpa using fJ.out,bg.out⟩
theorem UN:(Tryz.prog.info? 39).map (fun i=>(i.zero,i.size,i.bytes))=some (some (.agg #[.string ⟨#[]⟩,.int .i64 0,.int .i64 0,.string ⟨#[]⟩,.slice none 0 0,.slice none 0 0]),6,96):=by kernel_rfl
theorem akm (B:Nat) (A:Option Addr) (c n:Nat) (news:List Value) (w:World) (h:Reads w B 6 A n news) (h1: ∀u∈news,u.oneCell'=true) (hn:n<=1073741824) (hB:B<=w.heap.size):
  Calls Tryz.prog 80 #[.slice A n c] w fun e w'=> ∃v',e=.returned v'/\w'.ownsRow w.heap.size 39 6 v' n news/\Below w.heap.size w w':=by
 have q22: ∀(w:World) (a:Option Addr) (n c n' c':Nat),(binOp .eql 40 (.slice a n c) (.slice none n' c')).run Tryz.prog w=.ok (.bool a.isNone) w:=fun w a n c n' c'=>Lib.run_eql_slice_nil w _ _ a n c n' c' Tryz.underlying40
 cases A with
 |none=>
  obtain rfl:n=0:=by
   rcases afv n with h0|hp
   ·exact h0
   obtain⟨b,off,he,-⟩:=h.2 hp;cases he
  obtain rfl:news=[]:=adB (by simpa using h.1)
  clear h hn h1;go_enter Tryz.func80,Tryz.ntmps80;go_wp2;go_ret
  exact⟨_,rfl,World.ownsRow_nil _ _ _ _,Below.refl _ _⟩
 |some a=>
  obtain⟨i0,hi,hz0,hz1,hz2⟩:=info_parts UN
  have HH:=ah (h.below ((Below.refl B w).alloc hB (.cells #[] 39)));have H1:=ah h1
  have nH:=ah (oM w 39 6);have mD:=ah (show 0+n<=maxLen by unfold maxLen;omega)
  have HL2:=ah (show(0+n)*96<=140737488355328 by omega)
  clear h h1 hn;go_enter Tryz.func80,Tryz.ntmps80
  go_wp2_with (at_builtin;refine y5 (w.alloc (.cells #[] 39)) rfl (.tmp 5) (.tmp 6) 40 rfl w.heap.size 39 i0 (.agg #[.string ⟨#[]⟩,.int .i64 0,.int .i64 0,.string ⟨#[]⟩,.slice none 0 0,.slice none 0 0]) 6 96 Tryz.underlying40 hi hz0 hz1 hz2 rfl (by decide) (.slice (some ⟨w.heap.size,0,none⟩) 0 0) 0 [] rfl nH.out B (some a) n c news rfl HH.out H1.out mD.out HL2.out (by simp) ?_)
  intro v9 w9 aJ bI dD;have fJ:=ah aJ
  have bg:=ah (((Below.refl w.heap.size w).alloc (ac4 _) (.cells #[] 39)).grown bI (by simp) (fun j e=>by cases e;exact ac4 _))
  clear aJ bI dD;go_wp2;go_ret;exact⟨v9,rfl,by simpa using fJ.out,bg.out⟩
theorem akn:(Tryz.prog.info? 42).map (fun i=>(i.zero,i.size,i.bytes))=some (some (.agg #[.int .i64 0,.slice none 0 0,.slice none 0 0]),3,56):=by kernel_rfl
theorem ako (B:Nat) (A:Option Addr) (c n:Nat) (news:List Value) (w:World) (h:Reads w B 3 A n news) (h1: ∀u∈news,u.oneCell'=true) (hn:n<=1073741824) (hB:B<=w.heap.size):
  Calls Tryz.prog 33 #[.slice A n c] w fun e w'=> ∃v',e=.returned v'/\w'.ownsRow w.heap.size 42 3 v' n news/\Below w.heap.size w w':=by
 have q22: ∀(w:World) (a:Option Addr) (n c n' c':Nat),(binOp .eql 23 (.slice a n c) (.slice none n' c')).run Tryz.prog w=.ok (.bool a.isNone) w:=fun w a n c n' c'=>Lib.run_eql_slice_nil w _ _ a n c n' c' Tryz.underlying23
 cases A with
 |none=>
  obtain rfl:n=0:=by
   rcases afv n with h0|hp
   ·exact h0
   obtain⟨b,off,he,-⟩:=h.2 hp;cases he
  obtain rfl:news=[]:=adB (by simpa using h.1)
  clear h hn h1;go_enter Tryz.func33,Tryz.ntmps33;go_wp2;go_ret
  exact⟨_,rfl,World.ownsRow_nil _ _ _ _,Below.refl _ _⟩
 |some a=>
  obtain⟨i0,hi,hz0,hz1,hz2⟩:=info_parts akn
  have HH:=ah (h.below ((Below.refl B w).alloc hB (.cells #[] 42)));have H1:=ah h1
  have nH:=ah (oM w 42 3);have mD:=ah (show 0+n<=maxLen by unfold maxLen;omega)
  have HL2:=ah (show(0+n)*56<=140737488355328 by omega)
  clear h h1 hn;go_enter Tryz.func33,Tryz.ntmps33
  go_wp2_with (at_builtin;refine y5 (w.alloc (.cells #[] 42)) rfl (.tmp 5) (.tmp 6) 23 rfl w.heap.size 42 i0 (.agg #[.int .i64 0,.slice none 0 0,.slice none 0 0]) 3 56 Tryz.underlying23 hi hz0 hz1 hz2 rfl (by decide) (.slice (some ⟨w.heap.size,0,none⟩) 0 0) 0 [] rfl nH.out B (some a) n c news rfl HH.out H1.out mD.out HL2.out (by simp) ?_)
  intro v9 w9 aJ bI dD;have fJ:=ah aJ
  have bg:=ah (((Below.refl w.heap.size w).alloc (ac4 _) (.cells #[] 42)).grown bI (by simp) (fun j e=>by cases e;exact ac4 _))
  clear aJ bI dD;go_wp2;go_ret;exact⟨v9,rfl,by simpa using fJ.out,bg.out⟩
theorem akp:(Tryz.prog.info? 44).map (fun i=>(i.zero,i.size,i.bytes))=some (some (.agg #[.int .i64 0,.string ⟨#[]⟩,.int .i64 0,.int .i64 0,.slice none 0 0]),5,64):=by kernel_rfl
theorem akq (B:Nat) (A:Option Addr) (c n:Nat) (news:List Value) (w:World) (h:Reads w B 5 A n news) (h1: ∀u∈news,u.oneCell'=true) (hn:n<=1073741824) (hB:B<=w.heap.size):
  Calls Tryz.prog 34 #[.slice A n c] w fun e w'=> ∃v',e=.returned v'/\w'.ownsRow w.heap.size 44 5 v' n news/\Below w.heap.size w w':=by
 have q22: ∀(w:World) (a:Option Addr) (n c n' c':Nat),(binOp .eql 24 (.slice a n c) (.slice none n' c')).run Tryz.prog w=.ok (.bool a.isNone) w:=fun w a n c n' c'=>Lib.run_eql_slice_nil w _ _ a n c n' c' Tryz.underlying24
 cases A with
 |none=>
  obtain rfl:n=0:=by
   rcases afv n with h0|hp
   ·exact h0
   obtain⟨b,off,he,-⟩:=h.2 hp;cases he
  obtain rfl:news=[]:=adB (by simpa using h.1)
  clear h hn h1;go_enter Tryz.func34,Tryz.ntmps34;go_wp2;go_ret
  exact⟨_,rfl,World.ownsRow_nil _ _ _ _,Below.refl _ _⟩
 |some a=>
  obtain⟨i0,hi,hz0,hz1,hz2⟩:=info_parts akp
  have HH:=ah (h.below ((Below.refl B w).alloc hB (.cells #[] 44)));have H1:=ah h1
  have nH:=ah (oM w 44 5);have mD:=ah (show 0+n<=maxLen by unfold maxLen;omega)
  have HL2:=ah (show(0+n)*64<=140737488355328 by omega)
  clear h h1 hn;go_enter Tryz.func34,Tryz.ntmps34
  go_wp2_with (at_builtin;refine y5 (w.alloc (.cells #[] 44)) rfl (.tmp 5) (.tmp 6) 24 rfl w.heap.size 44 i0 (.agg #[.int .i64 0,.string ⟨#[]⟩,.int .i64 0,.int .i64 0,.slice none 0 0]) 5 64 Tryz.underlying24 hi hz0 hz1 hz2 rfl (by decide) (.slice (some ⟨w.heap.size,0,none⟩) 0 0) 0 [] rfl nH.out B (some a) n c news rfl HH.out H1.out mD.out HL2.out (by simp) ?_)
  intro v9 w9 aJ bI dD;have fJ:=ah aJ
  have bg:=ah (((Below.refl w.heap.size w).alloc (ac4 _) (.cells #[] 44)).grown bI (by simp) (fun j e=>by cases e;exact ac4 _))
  clear aJ bI dD;go_wp2;go_ret;exact⟨v9,rfl,by simpa using fJ.out,bg.out⟩
theorem own_below {w w':World} {B e k n:Nat} {v:Value} {xs:List Value} (h:w.ownsRow B e k v n xs) (hb:Below w.heap.size w w'):w'.ownsRow B e k v n xs:=
 h.kept (row:=none) ⟨hb.os,hb.tape,hb.output,hb.size,fun j hj _=>hb.block j hj⟩ (by cases hv:v.ownBlock<;>simp)
end Go.Proofs.YtkdakckjafomhaaGreatDoor
namespace Go.Proofs.YtkdakckjafomhaaGreatDoor
open Go.RowKit Go.Sort
theorem wW {β:Type} {V:World} {base T k n c i j:Nat} {A:Option Addr} {l1 l2:List (β×List Value)} {x:β} {cs:List Value} (h:V.ownsRow base T k (.slice A n c) n ((l1 ++(x,cs) :: l2).flatMap Prod.snd)) (h1: ∀y∈l1,y.2.length=k) (hi:l1.length=i) (hc:cs.length=k) (hn:i<n) (hj:j<k):
  ∃g,A=some ⟨g,0,none⟩/\base<=g/\V.cell? ⟨g,i*k+j,none⟩=cs[j]?/\V.frozen? ⟨g,i*k+j,none⟩=false/\ ∀u,(V.setCell ⟨g,i*k+j,none⟩ u).ownsRow base T k (.slice A n c) n ((l1 ++(x,cs.set j u) :: l2).flatMap Prod.snd):=by
 have ht:i*k+j<n*k:=by have:=af8 k (show i+1<=n from hn);rw[anj]at this;omega
 obtain⟨g,hA,hg,hcell,hf,hs⟩:=Ag h ht;have hlen:=JY (f:=Prod.snd) h1
 refine⟨g,hA,hg, ?_,hf,fun u=> ?_⟩
 ·rw[hcell,afG,ae2,ae5 (by rw[hlen,hi];omega),hlen,hi,arl,aeZ (by rw[hc];exact hj)]
 have:=hs u;rw[<-hi]at this⊢
 rwa [aj3 h1 (by rw[hc];exact hj)]at this
theorem fB.kept {w w':World} {B:Nat} {x:Gr.P×List Value} {e' n' size':Nat} {r:Value} {ys:List Value} (h:fB w B x) (hg:w.grownBy w' r.ownBlock) (hr:w.ownsRow B e' size' r n' ys) (h1:e'≠2) (h2:e'≠9):fB w' B x:=by
 obtain⟨s,t,e,o1,o2⟩:=h;exact⟨s,t,e,y8 o1 hg hr h1,y8 o2 hg hr h2⟩
theorem fB.aby {w w':World} {B:Nat} {x:Gr.P×List Value} (h:fB w B x) (hb:Below w.heap.size w w'):fB w' B x:=by
 obtain⟨s,t,e,o1,o2⟩:=h;exact⟨s,t,e,own_below o1 hb,own_below o2 hb⟩
theorem fB.len {w:World} {B:Nat} {x:Gr.P×List Value} (h:fB w B x):x.2.length=6:=by
 obtain⟨s,t,e,-,-⟩:=h;rw[e];rfl
theorem aX.len {w:World} {B:Nat} {p:Gr.P} {cs:List Value} (h:aX w B p cs):cs.length=6:=by
 obtain⟨An,cn,At,ct,e,-,-⟩:=h;rw[e];rfl
structure LY (w:World) (B:Nat) (ps:List Gr.P) (A:Option Addr) (n c i:Nat) (V:World):Prop where
 ex: ∃l1 l2:List (Gr.P×List Value),l1.length=i/\(l1++l2).map Prod.fst=ps/\(∀x∈l1,fB V w.heap.size x)/\(∀x∈l2,aX w B x.1 x.2)/\V.ownsRow w.heap.size 39 6 (.slice A n c) n ((l1++l2).flatMap Prod.snd)
 bel:Below w.heap.size w V
theorem akr {w:World} {B:Nat} {x:Gr.P×List Value} (h:fB w B x): ∃e:EP,vw e=x.2/\e.1=x.1.key:=by
 obtain⟨s,t,e,h1,h2⟩:=h;obtain⟨As,cs,rfl⟩:=aF h1;obtain⟨At,ct,rfl⟩:=aF h2
 exact⟨(x.1.key,x.1.val.kind,x.1.val.num,x.1.val.text,(As,x.1.val.nums.length,cs),(At,x.1.val.texts.length,ct)),e.symm,rfl⟩
theorem LY.sorted {w V:World} {B n c g:Nat} {ps:List Gr.P} (h:LY w B ps (some ⟨g,0,none⟩) n c n V) (hn:ps.length=n) (hd:(ps.map Gr.P.key).Nodup): ∃d:Array EP,d.size=n/\RowK vw 6 V g 0 d/\
  ∀V' d',d'.size=n->SWK vw 6 V g 0 d' V'->fK.bJ Je d'.toList->d'.toList.Perm d.toList->cu 39 V' w.heap.size (.slice (some ⟨g,0,none⟩) n c) (Gr.lS ps)/\Below w.heap.size w V':=by
 obtain⟨l1,l2,h1,h2,h3,-,h5⟩:=h.ex
 have hl2:l2=[]:=by
  have:=aeH List.length h2;rw[adU,adf,h1,hn]at this;exact adB (by omega)
 subst hl2;rw[aey]at h2 h5
 obtain⟨q,q1,q2⟩:=PY (enc:=vw) (ka:=fun e:EP=>e.1) (kb:=Gr.P.key) (fun x hx=>akr (h3 x hx))
 have hq:q.length=n:=by rw[<-h1,<-q1,adU]
 have e1:=PZ (enc:=vw) (fun y hy=>(q2 y hy).1)
 rw[q1]at e1;have hk: ∀x,(vw x).length=6:=fun x=>rfl
 refine⟨(q.map Prod.snd).toArray,by simp[hq],UK hk (fun x v hv=> ?_) (by rw[amZ,e1];exact h5) (by simp[hq]),fun V' d' hs S hsrt hp=> ?_⟩
 ·simp only[vw,aeY,anu,apX]at hv
  rcases hv with rfl|rfl|rfl|rfl|rfl|rfl<;>rfl
 obtain⟨o1,o2⟩:=UL hk h5 hs S;rw[amZ]at hp
 obtain⟨l',p1,p2,p3⟩:=UM Fe (ka:=fun e:EP=>e.1) q1 q2 hp hsrt (by rw[h2];exact hd)
 rw[h2]at p3;have hlen:(Gr.lS ps).length=n:=by rw[<-hn];exact(afz _ _).length_eq
 refine⟨⟨l',p3,fun x hx=>(h3 x (p1.mem_iff.1 hx)).kept (r:=.slice (some ⟨g,0,none⟩) n c) o2 h5 (by decide) (by decide),by rw[hlen,<-p2];exact o1⟩,h.bel.grown o2 h.bel.size (fun k hk=>(World.ownsRow.lt h5 k hk).1)⟩
theorem abz (B:Nat) (A:Option Addr) (c:Nat) (ps:List Gr.P) (w:World) (h:bY w B 6 (aX w B) A ps) (hB:B<=w.heap.size) (hl:ps.length<=1073741824) (hok: ∀p∈ps,uF p) (hd:(ps.map Gr.P.key).Nodup):
  Calls Tryz.prog 37 #[.slice A ps.length c] w fun e w'=> ∃v',e=.returned v'/\cu 39 w' w.heap.size v' (Gr.lS ps)/\Below w.heap.size w w':=by
 obtain⟨lp,hp1,hp2,hr⟩:=h.pairs;obtain⟨n,hn⟩:=aj ps.length
 have hone: ∀u∈lp.flatMap Prod.snd,u.oneCell'=true:=fun u hu=>by
  obtain⟨x,hx,hu⟩:=ae9.1 hu;obtain⟨⟨An,cn,At,ct,e,-,-⟩,-⟩:=hp2 x hx;rw[e]at hu
  simp only[aeY,anu,apX]at hu
  rcases hu with rfl|rfl|rfl|rfl|rfl|rfl<;>rfl
 rw[hn]at hr hl⊢;have zH:=ah (akm B A c n _ w hr hone hl hB);have HP1:=ah hp1
 have HP2:=ah hp2;have HN:=ah hn;have aV:=ah hok;have HD:=ah hd;have hBw:=hB
 clear h hone hr hp1 hp2 hn hok hd;go_enter Tryz.func37,Tryz.ntmps37;go_wp2_with fail
 refine zH.mono ?_;rintro e w1 ⟨v1,rfl,ho,hb⟩;obtain⟨A1,c1,rfl⟩:=aF ho
 have HS:=ah (show LY w B ps A1 n c1 0 w1 from⟨⟨[],lp,rfl,HP1.out,by simp,fun x hx=>(HP2.out x hx).1,ho⟩,hb⟩)
 clear ho hb zH;go_wp2_with fail
 go_loopg [9] n (fun kx s9 wr=> ∃i:Nat,s9=.int .i64 i/\i+kx=n/\LY w B ps A1 n c1 i wr)
 case atStart=>exact⟨0,rfl,by omega,HS.out⟩
 obtain⟨i,rfl,hk,hs⟩:=hrel;have HR:=ah hs;clear hs HS;cases gk with
 |zero=>
  obtain rfl:i=n:=by omega
  cases A1 with
  |none=>
   obtain⟨l1,l2,h1,h2,-,-,h5⟩:=HR.ex
   rcases h5.2 with⟨e,h0⟩|⟨g,cap,cur,e,-⟩
   ·cases e
    have hp0:ps=[]:=adB HN.out;subst hp0;go_wp2_with fail;refine(akh _ _ _ _).mono ?_
    rintro e w' ⟨rfl,rfl⟩;go_wp2;go_ret
    exact⟨_,rfl,by rw[show Gr.lS []=[] from aoh];exact cu.nil _ _ _,HR.bel⟩
   cases e
  |some a=>
   obtain⟨g,rfl⟩: ∃g,a=⟨g,0,none⟩:=by
    obtain⟨l1,l2,h1,h2,-,-,h5⟩:=HR.ex
    rcases h5.2 with⟨e,h0⟩|⟨g,cap,cur,e,-⟩
    ·cases e
    cases e;exact⟨g,rfl⟩
   obtain⟨d,d1,d2,d3⟩:=HR.sorted HN.out HD.out;have eG:=ah (akg (cap:=c1) d2 d1 hl)
   have HD3:=ah d3;clear d1 d2 d3;go_wp2_with fail;refine eG.mono ?_
   rintro e w' ⟨rfl,d',h1,h2,h3,h4⟩;have HF:=ah (HD3.out w' d' h1 h2 h3 h4)
   clear h1 h2 h3 h4;go_wp2;go_ret;exact⟨_,rfl,HF.out⟩
 |succ kq=>
  have hin:i<n:=by omega
  have D5:(i:Int)<(n:Int):=by omega
  obtain⟨l1,l2,h1,h2,h3,h4,h5⟩:=HR.ex;have hbel:=HR.bel
  obtain⟨⟨p,cs⟩,l3,rfl⟩: ∃x l3,l2=x :: l3:=by
   cases l2 with
   |nil=>
    have:=aeH List.length h2;rw[aey,adU,h1,HN.out]at this;omega
   |cons x r=>exact⟨x,r,rfl⟩
  obtain⟨An,cn,At,ct,rfl,dG,cO⟩:=(show aX w B p cs from h4 (p,cs) (agl ..))
  have gZ:=aV.out p (by rw[<-h2];simp)
  have hpl: ∀y∈l1,y.2.length=6:=fun y hy=>(h3 y hy).len
  obtain⟨nl,hnl⟩:=aj p.val.nums.length;obtain⟨tl,htl⟩:=aj p.val.texts.length
  have AQ:nl<=1073741824:=hnl▸gZ.val.nl;have anE:tl<=1073741824:=htl▸gZ.val.sl
  rw[hnl]at dG h5;rw[htl]at cO h5;have hw1:w.heap.size<=wr.heap.size:=hbel.size
  obtain⟨g,rfl,hg,c4,f4,-⟩:=wW (j:=4) h5 hpl h1 rfl hin (by decide)
  simp only[adL,adn]at c4
  have kV:=ah (akl B An cn nl _ wr (dG.below (hbel.mono hBw)) (fun u hu=>by obtain⟨y,-,rfl⟩:=afK.1 hu;rfl) AQ (adg hBw hw1))
  have HH:=ah (And.intro h1 (And.intro h2 (And.intro h3 (And.intro h4 (And.intro hpl (And.intro hnl htl))))))
  have H5:=ah h5;have dS:=ah cO;have HG:=ah hg;have HB:=ah hbel
  clear h1 h2 h3 h4 h5 hpl hnl htl dG cO hg HR hbel gZ;go_wp2_with fail;refine kV.mono ?_
  rintro e w2 ⟨v2,rfl,o2,b2⟩;obtain⟨A2,c2,rfl⟩:=aF o2;have hh:=HH.out
  have r2:=own_below H5.out b2
  obtain⟨g',e',-,Wu,f4',LZ⟩:=wW (j:=4) r2 hh.2.2.2.2.1 hh.1 rfl hin (by decide)
  cases e';simp only[adL,adn]at Wu;have row3:=LZ (.slice A2 nl c2)
  simp only[adl,adi]at row3
  obtain⟨W3,hW3⟩:=aj (w2.setCell ⟨g,i*6+4,none⟩ (.slice A2 nl c2))
  have hgs:w2.grownBy W3 (some g):=hW3▸grownBy_set w2 ⟨g,i*6+4,none⟩ _;rw[hW3]at row3
  have b3:Below w.heap.size w W3:=hW3▸(HB.trans (b2.mono hw1)).setCell HG.out _
  obtain⟨g',e',-,c5,f5,-⟩:=wW (j:=5) row3 hh.2.2.2.2.1 hh.1 rfl hin (by decide)
  cases e';simp only[adL,adn]at c5
  have HC2:=ah (abx B At ct tl _ W3 (dS.below (b3.mono hBw)) (fun u hu=>by obtain⟨y,-,rfl⟩:=afK.1 hu;rfl) anE (adg hBw b3.size))
  have o3:=y8 (x:=.slice (some ⟨g,0,none⟩) n c1) (iy o2 hw1) hgs r2 (by decide)
  have hp3: ∀x∈l1,fB W3 w.heap.size x:=fun x hx=>((hh.2.2.1 x hx).aby b2).kept (r:=.slice (some ⟨g,0,none⟩) n c1) hgs r2 (by decide) (by decide)
  have HX:=ah (And.intro row3 (And.intro o3 (And.intro hp3 b3)));have Gg:=ah hh
  clear o2 b2 r2 LZ hgs row3 b3 o3 hp3 hh HH H5 dS HB kV;go_wp2_with fail
  refine HC2.mono ?_;rintro e w4 ⟨v4,rfl,o4,b4⟩;obtain⟨A4,c6,rfl⟩:=aF o4;clear hW3
  obtain⟨row3,o3,hp3,b3⟩:=HX.out;have hh:=Gg.out;have r4:=own_below row3 b4
  obtain⟨g',e',-,c7,f7,st5⟩:=wW (j:=5) r4 hh.2.2.2.2.1 hh.1 rfl hin (by decide)
  cases e';simp only[adL,adn]at c7;have QK:=st5 (.slice A4 tl c6)
  simp only[adl,adi]at QK
  obtain⟨W5,bZ⟩:=aj (w4.setCell ⟨g,i*6+5,none⟩ (.slice A4 tl c6))
  have hgs:w4.grownBy W5 (some g):=bZ▸grownBy_set w4 ⟨g,i*6+5,none⟩ _;rw[bZ]at QK
  have b5:Below w.heap.size w W5:=bZ▸(b3.trans (b4.mono b3.size)).setCell HG.out _
  have o5:=y8 (x:=.slice (some ⟨g,0,none⟩) n c1) (iy o4 b3.size) hgs r4 (by decide)
  have o6:=y8 (x:=.slice (some ⟨g,0,none⟩) n c1) (own_below o3 b4) hgs r4 (by decide)
  have hs:=ah (show LY w B ps (some ⟨g,0,none⟩) n c1 (i+1) W5 from by
   refine⟨⟨l1++[(p,[ST p.key,.int .i64 p.val.kind,.int .i64 p.val.num,ST p.val.text,.slice A2 nl c2,.slice A4 tl c6])],l3,by simp[hh.1],by simpa using hh.2.1,fun x hx=> ?_,fun x hx=>hh.2.2.2.1 x (afg _ hx),by simpa using QK⟩,b5⟩
   rcases aem.1 hx with hx|hx
   ·exact((hp3 x hx).aby b4).kept (r:=.slice (some ⟨g,0,none⟩) n c1) hgs r4 (by decide) (by decide)
   rw[ael.1 hx];refine⟨_,_,rfl, ?_, ?_⟩
   ·show W5.ownsRow w.heap.size 2 1 (.slice A2 nl c2) p.val.nums.length (p.val.nums.map I64)
    rw[hh.2.2.2.2.2.1];exact o6
   show W5.ownsRow w.heap.size 9 1 (.slice A4 tl c6) p.val.texts.length (p.val.texts.map ST)
   rw[hh.2.2.2.2.2.2];exact o5)
  clear o4 b4 HX hh r4 st5 QK hgs b5 o5 o6 row3 o3 hp3 b3 Gg HC2;go_wp2_with fail
  go_roundg kq
  case measure=>omega
  exact⟨i+1,by simp,by omega,hs.out⟩
end Go.Proofs.YtkdakckjafomhaaGreatDoor
