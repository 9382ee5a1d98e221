/- Contracts and plain laws,part 22. -/
import Derived.Test.YtanlehkalkafdaaGreatDoorUR21
set_option maxHeartbeats 64000000
set_option maxRecDepth 1000000
set_option linter.all false
namespace Go.Proofs.YtanlehkalkafdaaGreatDoor
open Go.RowKit
theorem own_new (w:World) (e:TypeId) (size:Nat):(w.alloc (.cells #[] e)).ownsRow w.heap.size e size (.slice (some ⟨w.heap.size,0,none⟩) 0 0) 0 []:=
 ⟨by simp,.inr ⟨w.heap.size,0,#[],rfl,rM _,heap_alloc_new w _,by simp,by simp,by simp,by simp⟩⟩
theorem info_cloneBytes:(Tryz.prog.info? 5).map (fun i=>(i.zero,i.size,i.bytes))=some (some (.int .u8 0),1,1):=by kernel_rfl
theorem cloneBytes_any (B:Nat) (A:Option Addr) (c n:Nat) (news:List Value) (w:World) (h:Reads w B 1 A n news) (h1: ∀u∈news,u.oneCell'=true) (hn:n<=1073741824) (hB:B<=w.heap.size):
  Calls Tryz.prog 227 #[.slice A n c] w fun e w'=> ∃v',e=.returned v'/\w'.ownsRow w.heap.size 5 1 v' n news/\Below w.heap.size w w':=by
 have q22: ∀(w:World) (a:Option Addr) (n c n' c':Nat),(binOp .eql 104 (.slice a n c) (.slice none n' c')).run Tryz.prog w=.ok (.bool a.isNone) w:=fun w a n c n' c'=>Lib.run_eql_slice_nil w _ _ a n c n' c' Tryz.underlying104
 cases A with
 |none=>
  obtain rfl:n=0:=by
   rcases uY n with h0|hp
   ·exact h0
   obtain⟨b,off,he,-⟩:=h.2 hp;cases he
  obtain rfl:news=[]:=sH (by simpa using h.1)
  clear h hn h1;go_enter Tryz.func227,Tryz.ntmps227;go_wp2;go_ret
  exact⟨_,rfl,World.ownsRow_nil _ _ _ _,Below.refl _ _⟩
 |some a=>
  obtain⟨i0,hi,hz0,hz1,hz2⟩:=info_parts info_cloneBytes
  have HH:=ah (h.below ((Below.refl B w).alloc hB (.cells #[] 5)));have H1:=ah h1
  have HON:=ah (own_new w 5 1);have HL1:=ah (show 0+n<=maxLen by unfold maxLen;omega)
  have HL2:=ah (show(0+n)*1<=140737488355328 by omega)
  clear h h1 hn;go_enter Tryz.func227,Tryz.ntmps227
  go_wp2_with (at_builtin;refine wpList_append_any (w.alloc (.cells #[] 5)) rfl (.tmp 5) (.tmp 6) 104 rfl w.heap.size 5 i0 (.int .u8 0) 1 1 Tryz.underlying104 hi hz0 hz1 hz2 rfl (by decide) (.slice (some ⟨w.heap.size,0,none⟩) 0 0) 0 [] rfl HON.out B (some a) n c news rfl HH.out H1.out HL1.out HL2.out (by simp) ?_)
  intro v9 w9 hown9 hgr9 hwh9;have HO9:=ah hown9
  have HB9:=ah (((Below.refl w.heap.size w).alloc (rM _) (.cells #[] 5)).grown hgr9 (by simp) (fun j e=>by cases e;exact rM _))
  clear hown9 hgr9 hwh9;go_wp2;go_ret;exact⟨v9,rfl,by simpa using HO9.out,HB9.out⟩
theorem info_cloneInts:(Tryz.prog.info? 2).map (fun i=>(i.zero,i.size,i.bytes))=some (some (.int .i64 0),1,8):=by kernel_rfl
theorem cloneInts_any (B:Nat) (A:Option Addr) (c n:Nat) (news:List Value) (w:World) (h:Reads w B 1 A n news) (h1: ∀u∈news,u.oneCell'=true) (hn:n<=1073741824) (hB:B<=w.heap.size):
  Calls Tryz.prog 121 #[.slice A n c] w fun e w'=> ∃v',e=.returned v'/\w'.ownsRow w.heap.size 2 1 v' n news/\Below w.heap.size w w':=by
 have q22: ∀(w:World) (a:Option Addr) (n c n' c':Nat),(binOp .eql 49 (.slice a n c) (.slice none n' c')).run Tryz.prog w=.ok (.bool a.isNone) w:=fun w a n c n' c'=>Lib.run_eql_slice_nil w _ _ a n c n' c' Tryz.underlying49
 cases A with
 |none=>
  obtain rfl:n=0:=by
   rcases uY n with h0|hp
   ·exact h0
   obtain⟨b,off,he,-⟩:=h.2 hp;cases he
  obtain rfl:news=[]:=sH (by simpa using h.1)
  clear h hn h1;go_enter Tryz.func121,Tryz.ntmps121;go_wp2;go_ret
  exact⟨_,rfl,World.ownsRow_nil _ _ _ _,Below.refl _ _⟩
 |some a=>
  obtain⟨i0,hi,hz0,hz1,hz2⟩:=info_parts info_cloneInts
  have HH:=ah (h.below ((Below.refl B w).alloc hB (.cells #[] 2)));have H1:=ah h1
  have HON:=ah (own_new w 2 1);have HL1:=ah (show 0+n<=maxLen by unfold maxLen;omega)
  have HL2:=ah (show(0+n)*8<=140737488355328 by omega)
  clear h h1 hn;go_enter Tryz.func121,Tryz.ntmps121
  go_wp2_with (at_builtin;refine wpList_append_any (w.alloc (.cells #[] 2)) rfl (.tmp 5) (.tmp 6) 49 rfl w.heap.size 2 i0 (.int .i64 0) 1 8 Tryz.underlying49 hi hz0 hz1 hz2 rfl (by decide) (.slice (some ⟨w.heap.size,0,none⟩) 0 0) 0 [] rfl HON.out B (some a) n c news rfl HH.out H1.out HL1.out HL2.out (by simp) ?_)
  intro v9 w9 hown9 hgr9 hwh9;have HO9:=ah hown9
  have HB9:=ah (((Below.refl w.heap.size w).alloc (rM _) (.cells #[] 2)).grown hgr9 (by simp) (fun j e=>by cases e;exact rM _))
  clear hown9 hgr9 hwh9;go_wp2;go_ret;exact⟨v9,rfl,by simpa using HO9.out,HB9.out⟩
theorem info_cloneStrs:(Tryz.prog.info? 9).map (fun i=>(i.zero,i.size,i.bytes))=some (some (.string ⟨#[]⟩),1,16):=by kernel_rfl
theorem cloneStrs_any (B:Nat) (A:Option Addr) (c n:Nat) (news:List Value) (w:World) (h:Reads w B 1 A n news) (h1: ∀u∈news,u.oneCell'=true) (hn:n<=1073741824) (hB:B<=w.heap.size):
  Calls Tryz.prog 73 #[.slice A n c] w fun e w'=> ∃v',e=.returned v'/\w'.ownsRow w.heap.size 9 1 v' n news/\Below w.heap.size w w':=by
 have q22: ∀(w:World) (a:Option Addr) (n c n' c':Nat),(binOp .eql 45 (.slice a n c) (.slice none n' c')).run Tryz.prog w=.ok (.bool a.isNone) w:=fun w a n c n' c'=>Lib.run_eql_slice_nil w _ _ a n c n' c' Tryz.underlying45
 cases A with
 |none=>
  obtain rfl:n=0:=by
   rcases uY n with h0|hp
   ·exact h0
   obtain⟨b,off,he,-⟩:=h.2 hp;cases he
  obtain rfl:news=[]:=sH (by simpa using h.1)
  clear h hn h1;go_enter Tryz.func73,Tryz.ntmps73;go_wp2;go_ret
  exact⟨_,rfl,World.ownsRow_nil _ _ _ _,Below.refl _ _⟩
 |some a=>
  obtain⟨i0,hi,hz0,hz1,hz2⟩:=info_parts info_cloneStrs
  have HH:=ah (h.below ((Below.refl B w).alloc hB (.cells #[] 9)));have H1:=ah h1
  have HON:=ah (own_new w 9 1);have HL1:=ah (show 0+n<=maxLen by unfold maxLen;omega)
  have HL2:=ah (show(0+n)*16<=140737488355328 by omega)
  clear h h1 hn;go_enter Tryz.func73,Tryz.ntmps73
  go_wp2_with (at_builtin;refine wpList_append_any (w.alloc (.cells #[] 9)) rfl (.tmp 5) (.tmp 6) 45 rfl w.heap.size 9 i0 (.string ⟨#[]⟩) 1 16 Tryz.underlying45 hi hz0 hz1 hz2 rfl (by decide) (.slice (some ⟨w.heap.size,0,none⟩) 0 0) 0 [] rfl HON.out B (some a) n c news rfl HH.out H1.out HL1.out HL2.out (by simp) ?_)
  intro v9 w9 hown9 hgr9 hwh9;have HO9:=ah hown9
  have HB9:=ah (((Below.refl w.heap.size w).alloc (rM _) (.cells #[] 9)).grown hgr9 (by simp) (fun j e=>by cases e;exact rM _))
  clear hown9 hgr9 hwh9;go_wp2;go_ret;exact⟨v9,rfl,by simpa using HO9.out,HB9.out⟩
theorem info_cloneProps:(Tryz.prog.info? 53).map (fun i=>(i.zero,i.size,i.bytes))=some (some (.agg #[.string ⟨#[]⟩,.int .i64 0,.int .i64 0,.string ⟨#[]⟩,.slice none 0 0,.slice none 0 0]),6,96):=by kernel_rfl
theorem cloneProps_any (B:Nat) (A:Option Addr) (c n:Nat) (news:List Value) (w:World) (h:Reads w B 6 A n news) (h1: ∀u∈news,u.oneCell'=true) (hn:n<=1073741824) (hB:B<=w.heap.size):
  Calls Tryz.prog 120 #[.slice A n c] w fun e w'=> ∃v',e=.returned v'/\w'.ownsRow w.heap.size 53 6 v' n news/\Below w.heap.size w w':=by
 have q22: ∀(w:World) (a:Option Addr) (n c n' c':Nat),(binOp .eql 46 (.slice a n c) (.slice none n' c')).run Tryz.prog w=.ok (.bool a.isNone) w:=fun w a n c n' c'=>Lib.run_eql_slice_nil w _ _ a n c n' c' Tryz.underlying46
 cases A with
 |none=>
  obtain rfl:n=0:=by
   rcases uY n with h0|hp
   ·exact h0
   obtain⟨b,off,he,-⟩:=h.2 hp;cases he
  obtain rfl:news=[]:=sH (by simpa using h.1)
  clear h hn h1;go_enter Tryz.func120,Tryz.ntmps120;go_wp2;go_ret
  exact⟨_,rfl,World.ownsRow_nil _ _ _ _,Below.refl _ _⟩
 |some a=>
  obtain⟨i0,hi,hz0,hz1,hz2⟩:=info_parts info_cloneProps
  have HH:=ah (h.below ((Below.refl B w).alloc hB (.cells #[] 53)));have H1:=ah h1
  have HON:=ah (own_new w 53 6);have HL1:=ah (show 0+n<=maxLen by unfold maxLen;omega)
  have HL2:=ah (show(0+n)*96<=140737488355328 by omega)
  clear h h1 hn;go_enter Tryz.func120,Tryz.ntmps120
  go_wp2_with (at_builtin;refine wpList_append_any (w.alloc (.cells #[] 53)) rfl (.tmp 5) (.tmp 6) 46 rfl w.heap.size 53 i0 (.agg #[.string ⟨#[]⟩,.int .i64 0,.int .i64 0,.string ⟨#[]⟩,.slice none 0 0,.slice none 0 0]) 6 96 Tryz.underlying46 hi hz0 hz1 hz2 rfl (by decide) (.slice (some ⟨w.heap.size,0,none⟩) 0 0) 0 [] rfl HON.out B (some a) n c news rfl HH.out H1.out HL1.out HL2.out (by simp) ?_)
  intro v9 w9 hown9 hgr9 hwh9;have HO9:=ah hown9
  have HB9:=ah (((Below.refl w.heap.size w).alloc (rM _) (.cells #[] 53)).grown hgr9 (by simp) (fun j e=>by cases e;exact rM _))
  clear hown9 hgr9 hwh9;go_wp2;go_ret;exact⟨v9,rfl,by simpa using HO9.out,HB9.out⟩
theorem info_cloneNodes:(Tryz.prog.info? 48).map (fun i=>(i.zero,i.size,i.bytes))=some (some (.agg #[.int .i64 0,.slice none 0 0,.slice none 0 0]),3,56):=by kernel_rfl
theorem cloneNodes_any (B:Nat) (A:Option Addr) (c n:Nat) (news:List Value) (w:World) (h:Reads w B 3 A n news) (h1: ∀u∈news,u.oneCell'=true) (hn:n<=1073741824) (hB:B<=w.heap.size):
  Calls Tryz.prog 71 #[.slice A n c] w fun e w'=> ∃v',e=.returned v'/\w'.ownsRow w.heap.size 48 3 v' n news/\Below w.heap.size w w':=by
 have q22: ∀(w:World) (a:Option Addr) (n c n' c':Nat),(binOp .eql 22 (.slice a n c) (.slice none n' c')).run Tryz.prog w=.ok (.bool a.isNone) w:=fun w a n c n' c'=>Lib.run_eql_slice_nil w _ _ a n c n' c' Tryz.underlying22
 cases A with
 |none=>
  obtain rfl:n=0:=by
   rcases uY n with h0|hp
   ·exact h0
   obtain⟨b,off,he,-⟩:=h.2 hp;cases he
  obtain rfl:news=[]:=sH (by simpa using h.1)
  clear h hn h1;go_enter Tryz.func71,Tryz.ntmps71;go_wp2;go_ret
  exact⟨_,rfl,World.ownsRow_nil _ _ _ _,Below.refl _ _⟩
 |some a=>
  obtain⟨i0,hi,hz0,hz1,hz2⟩:=info_parts info_cloneNodes
  have HH:=ah (h.below ((Below.refl B w).alloc hB (.cells #[] 48)));have H1:=ah h1
  have HON:=ah (own_new w 48 3);have HL1:=ah (show 0+n<=maxLen by unfold maxLen;omega)
  have HL2:=ah (show(0+n)*56<=140737488355328 by omega)
  clear h h1 hn;go_enter Tryz.func71,Tryz.ntmps71
  go_wp2_with (at_builtin;refine wpList_append_any (w.alloc (.cells #[] 48)) rfl (.tmp 5) (.tmp 6) 22 rfl w.heap.size 48 i0 (.agg #[.int .i64 0,.slice none 0 0,.slice none 0 0]) 3 56 Tryz.underlying22 hi hz0 hz1 hz2 rfl (by decide) (.slice (some ⟨w.heap.size,0,none⟩) 0 0) 0 [] rfl HON.out B (some a) n c news rfl HH.out H1.out HL1.out HL2.out (by simp) ?_)
  intro v9 w9 hown9 hgr9 hwh9;have HO9:=ah hown9
  have HB9:=ah (((Below.refl w.heap.size w).alloc (rM _) (.cells #[] 48)).grown hgr9 (by simp) (fun j e=>by cases e;exact rM _))
  clear hown9 hgr9 hwh9;go_wp2;go_ret;exact⟨v9,rfl,by simpa using HO9.out,HB9.out⟩
theorem info_cloneRels:(Tryz.prog.info? 55).map (fun i=>(i.zero,i.size,i.bytes))=some (some (.agg #[.int .i64 0,.string ⟨#[]⟩,.int .i64 0,.int .i64 0,.slice none 0 0]),5,64):=by kernel_rfl
theorem cloneRels_any (B:Nat) (A:Option Addr) (c n:Nat) (news:List Value) (w:World) (h:Reads w B 5 A n news) (h1: ∀u∈news,u.oneCell'=true) (hn:n<=1073741824) (hB:B<=w.heap.size):
  Calls Tryz.prog 72 #[.slice A n c] w fun e w'=> ∃v',e=.returned v'/\w'.ownsRow w.heap.size 55 5 v' n news/\Below w.heap.size w w':=by
 have q22: ∀(w:World) (a:Option Addr) (n c n' c':Nat),(binOp .eql 23 (.slice a n c) (.slice none n' c')).run Tryz.prog w=.ok (.bool a.isNone) w:=fun w a n c n' c'=>Lib.run_eql_slice_nil w _ _ a n c n' c' Tryz.underlying23
 cases A with
 |none=>
  obtain rfl:n=0:=by
   rcases uY n with h0|hp
   ·exact h0
   obtain⟨b,off,he,-⟩:=h.2 hp;cases he
  obtain rfl:news=[]:=sH (by simpa using h.1)
  clear h hn h1;go_enter Tryz.func72,Tryz.ntmps72;go_wp2;go_ret
  exact⟨_,rfl,World.ownsRow_nil _ _ _ _,Below.refl _ _⟩
 |some a=>
  obtain⟨i0,hi,hz0,hz1,hz2⟩:=info_parts info_cloneRels
  have HH:=ah (h.below ((Below.refl B w).alloc hB (.cells #[] 55)));have H1:=ah h1
  have HON:=ah (own_new w 55 5);have HL1:=ah (show 0+n<=maxLen by unfold maxLen;omega)
  have HL2:=ah (show(0+n)*64<=140737488355328 by omega)
  clear h h1 hn;go_enter Tryz.func72,Tryz.ntmps72
  go_wp2_with (at_builtin;refine wpList_append_any (w.alloc (.cells #[] 55)) rfl (.tmp 5) (.tmp 6) 23 rfl w.heap.size 55 i0 (.agg #[.int .i64 0,.string ⟨#[]⟩,.int .i64 0,.int .i64 0,.slice none 0 0]) 5 64 Tryz.underlying23 hi hz0 hz1 hz2 rfl (by decide) (.slice (some ⟨w.heap.size,0,none⟩) 0 0) 0 [] rfl HON.out B (some a) n c news rfl HH.out H1.out HL1.out HL2.out (by simp) ?_)
  intro v9 w9 hown9 hgr9 hwh9;have HO9:=ah hown9
  have HB9:=ah (((Below.refl w.heap.size w).alloc (rM _) (.cells #[] 55)).grown hgr9 (by simp) (fun j e=>by cases e;exact rM _))
  clear hown9 hgr9 hwh9;go_wp2;go_ret;exact⟨v9,rfl,by simpa using HO9.out,HB9.out⟩
theorem own_below {w w':World} {B e k n:Nat} {v:Value} {xs:List Value} (h:w.ownsRow B e k v n xs) (hb:Below w.heap.size w w'):w'.ownsRow B e k v n xs:=
 h.kept (row:=none) ⟨hb.os,hb.tape,hb.output,hb.size,fun j hj _=>hb.block j hj⟩ (by cases hv:v.ownBlock<;>simp)
end Go.Proofs.YtanlehkalkafdaaGreatDoor
namespace Go.Proofs.YtanlehkalkafdaaGreatDoor
open Go.RowKit Go.Sort
theorem own_el {β:Type} {V:World} {base T k n c i j:Nat} {A:Option Addr} {l1 l2:List (β×List Value)} {x:β} {cs:List Value} (h:V.ownsRow base T k (.slice A n c) n ((l1 ++(x,cs) :: l2).flatMap Prod.snd)) (h1: ∀y∈l1,y.2.length=k) (hi:l1.length=i) (hc:cs.length=k) (hn:i<n) (hj:j<k):
  ∃g,A=some ⟨g,0,none⟩/\base<=g/\V.cell? ⟨g,i*k+j,none⟩=cs[j]?/\V.frozen? ⟨g,i*k+j,none⟩=false/\ ∀u,(V.setCell ⟨g,i*k+j,none⟩ u).ownsRow base T k (.slice A n c) n ((l1 ++(x,cs.set j u) :: l2).flatMap Prod.snd):=by
 have ht:i*k+j<n*k:=by have:=vU k (show i+1<=n from hn);rw[x9]at this;omega
 obtain⟨g,hA,hg,hcell,hf,hs⟩:=own_setL h ht;have hlen:=flat_lk (f:=Prod.snd) h1
 refine⟨g,hA,hg, ?_,hf,fun u=> ?_⟩
 ·rw[hcell,vM,uK,uI (by rw[hlen,hi];omega),hlen,hi,xq,uN (by rw[hc];exact hj)]
 have:=hs u;rw[<-hi]at this⊢
 rwa [flat_set h1 (by rw[hc];exact hj)]at this
theorem PairOwn.kept {w w':World} {B:Nat} {x:Gr.P×List Value} {e' n' size':Nat} {r:Value} {ys:List Value} (h:PairOwn w B x) (hg:w.grownBy w' r.ownBlock) (hr:w.ownsRow B e' size' r n' ys) (h1:e'≠2) (h2:e'≠9):PairOwn w' B x:=by
 obtain⟨s,t,e,o1,o2⟩:=h;exact⟨s,t,e,own_grown_ty' o1 hg hr h1,own_grown_ty' o2 hg hr h2⟩
theorem PairOwn.belw {w w':World} {B:Nat} {x:Gr.P×List Value} (h:PairOwn w B x) (hb:Below w.heap.size w w'):PairOwn w' B x:=by
 obtain⟨s,t,e,o1,o2⟩:=h;exact⟨s,t,e,own_below o1 hb,own_below o2 hb⟩
theorem PairOwn.len {w:World} {B:Nat} {x:Gr.P×List Value} (h:PairOwn w B x):x.2.length=6:=by
 obtain⟨s,t,e,-,-⟩:=h;rw[e];rfl
structure CoS (w:World) (B:Nat) (ps:List Gr.P) (A:Option Addr) (n c i:Nat) (V:World):Prop where
 ex: ∃l1 l2:List (Gr.P×List Value),l1.length=i/\(l1++l2).map Prod.fst=ps/\(∀x∈l1,PairOwn V w.heap.size x)/\(∀x∈l2,PropC w B x.1 x.2)/\V.ownsRow w.heap.size 53 6 (.slice A n c) n ((l1++l2).flatMap Prod.snd)
 bel:Below w.heap.size w V
theorem encP_of {w:World} {B:Nat} {x:Gr.P×List Value} (h:PairOwn w B x): ∃e:EP,encP e=x.2/\e.1=x.1.key:=by
 obtain⟨s,t,e,h1,h2⟩:=h;obtain⟨As,cs,rfl⟩:=own_form h1;obtain⟨At,ct,rfl⟩:=own_form h2
 exact⟨(x.1.key,x.1.val.kind,x.1.val.num,x.1.val.text,(As,x.1.val.nums.length,cs),(At,x.1.val.texts.length,ct)),e.symm,rfl⟩
theorem CoS.sorted {w V:World} {B n c g:Nat} {ps:List Gr.P} (h:CoS w B ps (some ⟨g,0,none⟩) n c n V) (hn:ps.length=n) (hd:(ps.map Gr.P.key).Nodup): ∃d:Array EP,d.size=n/\RowK encP 6 V g 0 d/\
  ∀V' d',d'.size=n->SWK encP 6 V g 0 d' V'->Stb.Srt leP d'.toList->d'.toList.Perm d.toList->PropsOwn 53 V' w.heap.size (.slice (some ⟨g,0,none⟩) n c) (Gr.canonProps ps)/\Below w.heap.size w V':=by
 obtain⟨l1,l2,h1,h2,h3,-,h5⟩:=h.ex
 have hl2:l2=[]:=by
  have:=uo List.length h2;rw[sU,rP,h1,hn]at this;exact sH (by omega)
 subst hl2;rw[tC]at h2 h5
 obtain⟨q,q1,q2⟩:=lift_enc (enc:=encP) (ka:=fun e:EP=>e.1) (kb:=Gr.P.key) (fun x hx=>encP_of (h3 x hx))
 have hq:q.length=n:=by rw[<-h1,<-q1,sU]
 have e1:=row_enc (enc:=encP) (fun y hy=>(q2 y hy).1)
 rw[q1]at e1;have hk: ∀x,(encP x).length=6:=fun x=>rfl
 refine⟨(q.map Prod.snd).toArray,by simp[hq],rowK_own hk (fun x v hv=> ?_) (by rw[wR,e1];exact h5) (by simp[hq]),fun V' d' hs S hsrt hp=> ?_⟩
 ·simp only[encP,uD,xF,AY]at hv
  rcases hv with rfl|rfl|rfl|rfl|rfl|rfl<;>rfl
 obtain⟨o1,o2⟩:=swk_own hk h5 hs S;rw[wR]at hp
 obtain⟨l',p1,p2,p3⟩:=sort_pairs key_str (ka:=fun e:EP=>e.1) q1 q2 hp hsrt (by rw[h2];exact hd)
 rw[h2]at p3;have hlen:(Gr.canonProps ps).length=n:=by rw[<-hn];exact(vG _ _).length_eq
 refine⟨⟨l',p3,fun x hx=>(h3 x (p1.mem_iff.1 hx)).kept (r:=.slice (some ⟨g,0,none⟩) n c) o2 h5 (by decide) (by decide),by rw[hlen,<-p2];exact o1⟩,h.bel.grown o2 h.bel.size (fun k hk=>(World.ownsRow.lt h5 k hk).1)⟩
theorem copyProps_any (B:Nat) (A:Option Addr) (c:Nat) (ps:List Gr.P) (w:World) (h:Lst w B 6 (PropC w B) A ps) (hB:B<=w.heap.size) (hl:ps.length<=1073741824) (hok: ∀p∈ps,POk p) (hd:(ps.map Gr.P.key).Nodup):
  Calls Tryz.prog 75 #[.slice A ps.length c] w fun e w'=> ∃v',e=.returned v'/\PropsOwn 53 w' w.heap.size v' (Gr.canonProps ps)/\Below w.heap.size w w':=by
 obtain⟨lp,hp1,hp2,hr⟩:=h.pairs;obtain⟨n,hn⟩:=aj ps.length
 have hone: ∀u∈lp.flatMap Prod.snd,u.oneCell'=true:=fun u hu=>by
  obtain⟨x,hx,hu⟩:=uF.1 hu;obtain⟨⟨An,cn,At,ct,e,-,-⟩,-⟩:=hp2 x hx;rw[e]at hu
  simp only[uD,xF,AY]at hu
  rcases hu with rfl|rfl|rfl|rfl|rfl|rfl<;>rfl
 rw[hn]at hr hl⊢;have HCL:=ah (cloneProps_any B A c n _ w hr hone hl hB)
 have HP1:=ah hp1;have HP2:=ah hp2;have HN:=ah hn;have HOK:=ah hok;have HD:=ah hd
 have hBw:=hB;clear h hone hr hp1 hp2 hn hok hd;go_enter Tryz.func75,Tryz.ntmps75
 go_wp2_with fail;refine HCL.mono ?_;rintro e w1 ⟨v1,rfl,ho,hb⟩
 obtain⟨A1,c1,rfl⟩:=own_form ho
 have HS:=ah (show CoS w B ps A1 n c1 0 w1 from⟨⟨[],lp,rfl,HP1.out,by simp,fun x hx=>(HP2.out x hx).1,ho⟩,hb⟩)
 clear ho hb HCL;go_wp2_with fail
 go_loopg [9] n (fun kx s9 wr=> ∃i:Nat,s9=.int .i64 i/\i+kx=n/\CoS w B ps A1 n c1 i wr)
 case atStart=>exact⟨0,rfl,by omega,HS.out⟩
 obtain⟨i,rfl,hk,hs⟩:=hrel;have HR:=ah hs;clear hs HS;cases gk with
 |zero=>
  obtain rfl:i=n:=by omega
  cases A1 with
  |none=>
   obtain⟨l1,l2,h1,h2,-,-,h5⟩:=HR.ex
   rcases h5.2 with⟨e,h0⟩|⟨g,cap,cur,e,-⟩
   ·cases e
    have hp0:ps=[]:=sH HN.out;subst hp0;go_wp2_with fail
    refine(sortP_none _ _ _ _).mono ?_;rintro e w' ⟨rfl,rfl⟩;go_wp2;go_ret
    exact⟨_,rfl,by rw[show Gr.canonProps []=[] from yQ];exact PropsOwn.nil _ _ _,HR.bel⟩
   cases e
  |some a=>
   obtain⟨g,rfl⟩: ∃g,a=⟨g,0,none⟩:=by
    obtain⟨l1,l2,h1,h2,-,-,h5⟩:=HR.ex
    rcases h5.2 with⟨e,h0⟩|⟨g,cap,cur,e,-⟩
    ·cases e
    cases e;exact⟨g,rfl⟩
   obtain⟨d,d1,d2,d3⟩:=HR.sorted HN.out HD.out;have HSO:=ah (sortP (cap:=c1) d2 d1 hl)
   have HD3:=ah d3;clear d1 d2 d3;go_wp2_with fail;refine HSO.mono ?_
   rintro e w' ⟨rfl,d',h1,h2,h3,h4⟩;have HF:=ah (HD3.out w' d' h1 h2 h3 h4)
   clear h1 h2 h3 h4;go_wp2;go_ret;exact⟨_,rfl,HF.out⟩
 |succ kq=>
  have hin:i<n:=by omega
  have hinI:(i:Int)<(n:Int):=by omega
  obtain⟨l1,l2,h1,h2,h3,h4,h5⟩:=HR.ex;have hbel:=HR.bel
  obtain⟨⟨p,cs⟩,l3,rfl⟩: ∃x l3,l2=x :: l3:=by
   cases l2 with
   |nil=>
    have:=uo List.length h2;rw[tC,sU,h1,HN.out]at this;omega
   |cons x r=>exact⟨x,r,rfl⟩
  obtain⟨An,cn,At,ct,rfl,ra1,ra2⟩:=(show PropC w B p cs from h4 (p,cs) (wX ..))
  have pok:=HOK.out p (by rw[<-h2];simp)
  have hpl: ∀y∈l1,y.2.length=6:=fun y hy=>(h3 y hy).len
  obtain⟨nl,hnl⟩:=aj p.val.nums.length;obtain⟨tl,htl⟩:=aj p.val.texts.length
  have hnl2:nl<=1073741824:=hnl▸pok.val.nl;have htl2:tl<=1073741824:=htl▸pok.val.sl
  rw[hnl]at ra1 h5;rw[htl]at ra2 h5;have hw1:w.heap.size<=wr.heap.size:=hbel.size
  obtain⟨g,rfl,hg,c4,f4,-⟩:=own_el (j:=4) h5 hpl h1 rfl hin (by decide)
  simp only[sN,sD]at c4
  have HC1:=ah (cloneInts_any B An cn nl _ wr (ra1.below (hbel.mono hBw)) (fun u hu=>by obtain⟨y,-,rfl⟩:=uU.1 hu;rfl) hnl2 (rV hBw hw1))
  have HH:=ah (And.intro h1 (And.intro h2 (And.intro h3 (And.intro h4 (And.intro hpl (And.intro hnl htl))))))
  have H5:=ah h5;have HRA:=ah ra2;have HG:=ah hg;have HB:=ah hbel
  clear h1 h2 h3 h4 h5 hpl hnl htl ra1 ra2 hg HR hbel pok;go_wp2_with fail
  refine HC1.mono ?_;rintro e w2 ⟨v2,rfl,o2,b2⟩;obtain⟨A2,c2,rfl⟩:=own_form o2
  have hh:=HH.out;have r2:=own_below H5.out b2
  obtain⟨g',e',-,c4',f4',st4⟩:=own_el (j:=4) r2 hh.2.2.2.2.1 hh.1 rfl hin (by decide)
  cases e';simp only[sN,sD]at c4';have row3:=st4 (.slice A2 nl c2)
  simp only[sF,su]at row3
  obtain⟨W3,hW3⟩:=aj (w2.setCell ⟨g,i*6+4,none⟩ (.slice A2 nl c2))
  have hgs:w2.grownBy W3 (some g):=hW3▸grownBy_set w2 ⟨g,i*6+4,none⟩ _;rw[hW3]at row3
  have b3:Below w.heap.size w W3:=hW3▸(HB.trans (b2.mono hw1)).setCell HG.out _
  obtain⟨g',e',-,c5,f5,-⟩:=own_el (j:=5) row3 hh.2.2.2.2.1 hh.1 rfl hin (by decide)
  cases e';simp only[sN,sD]at c5
  have HC2:=ah (cloneStrs_any B At ct tl _ W3 (HRA.below (b3.mono hBw)) (fun u hu=>by obtain⟨y,-,rfl⟩:=uU.1 hu;rfl) htl2 (rV hBw b3.size))
  have o3:=own_grown_ty' (x:=.slice (some ⟨g,0,none⟩) n c1) (own_lower o2 hw1) hgs r2 (by decide)
  have hp3: ∀x∈l1,PairOwn W3 w.heap.size x:=fun x hx=>((hh.2.2.1 x hx).belw b2).kept (r:=.slice (some ⟨g,0,none⟩) n c1) hgs r2 (by decide) (by decide)
  have HX:=ah (And.intro row3 (And.intro o3 (And.intro hp3 b3)));have HH4:=ah hh
  clear o2 b2 r2 st4 hgs row3 b3 o3 hp3 hh HH H5 HRA HB HC1;go_wp2_with fail
  refine HC2.mono ?_;rintro e w4 ⟨v4,rfl,o4,b4⟩;obtain⟨A4,c6,rfl⟩:=own_form o4;clear hW3
  obtain⟨row3,o3,hp3,b3⟩:=HX.out;have hh:=HH4.out;have r4:=own_below row3 b4
  obtain⟨g',e',-,c7,f7,st5⟩:=own_el (j:=5) r4 hh.2.2.2.2.1 hh.1 rfl hin (by decide)
  cases e';simp only[sN,sD]at c7;have row5:=st5 (.slice A4 tl c6)
  simp only[sF,su]at row5
  obtain⟨W5,hW5⟩:=aj (w4.setCell ⟨g,i*6+5,none⟩ (.slice A4 tl c6))
  have hgs:w4.grownBy W5 (some g):=hW5▸grownBy_set w4 ⟨g,i*6+5,none⟩ _;rw[hW5]at row5
  have b5:Below w.heap.size w W5:=hW5▸(b3.trans (b4.mono b3.size)).setCell HG.out _
  have o5:=own_grown_ty' (x:=.slice (some ⟨g,0,none⟩) n c1) (own_lower o4 b3.size) hgs r4 (by decide)
  have o6:=own_grown_ty' (x:=.slice (some ⟨g,0,none⟩) n c1) (own_below o3 b4) hgs r4 (by decide)
  have hs:=ah (show CoS w B ps (some ⟨g,0,none⟩) n c1 (i+1) W5 from by
   refine⟨⟨l1++[(p,[ST p.key,.int .i64 p.val.kind,.int .i64 p.val.num,ST p.val.text,.slice A2 nl c2,.slice A4 tl c6])],l3,by simp[hh.1],by simpa using hh.2.1,fun x hx=> ?_,fun x hx=>hh.2.2.2.1 x (uQ _ hx),by simpa using row5⟩,b5⟩
   rcases tZ.1 hx with hx|hx
   ·exact((hp3 x hx).belw b4).kept (r:=.slice (some ⟨g,0,none⟩) n c1) hgs r4 (by decide) (by decide)
   rw[ug.1 hx];refine⟨_,_,rfl, ?_, ?_⟩
   ·show W5.ownsRow w.heap.size 2 1 (.slice A2 nl c2) p.val.nums.length (p.val.nums.map I64)
    rw[hh.2.2.2.2.2.1];exact o6
   show W5.ownsRow w.heap.size 9 1 (.slice A4 tl c6) p.val.texts.length (p.val.texts.map ST)
   rw[hh.2.2.2.2.2.2];exact o5)
  clear o4 b4 HX hh r4 st5 row5 hgs b5 o5 o6 row3 o3 hp3 b3 HH4 HC2;go_wp2_with fail
  go_roundg kq
  case measure=>omega
  exact⟨i+1,by simp,by omega,hs.out⟩
end Go.Proofs.YtanlehkalkafdaaGreatDoor
