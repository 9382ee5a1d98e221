/- Contracts and plain laws,part 17. -/
import Derived.Test.YtoofbflplhbpbaaGreatDoorUO16
import Derived.RegionIn
set_option maxHeartbeats 64000000
set_option maxRecDepth 1000000
set_option linter.all false
namespace Go.Proofs.YtoofbflplhbpbaaGreatDoor
open Go.RowKit
theorem jO.of_below {T:TypeId} {A B:World} (h:Below A.heap.size A B):jO T A B:=
 ⟨h.size,fun k c fz hk=>(h.block k (acI.1 hk).1).trans hk⟩
theorem RD {α:Type} {P:Program} (T:TypeId) {g:Operand} {ps:Array Tmp} {assign body:Code} {Q:Exit->Act->World->Prop} {a:Act} {w:World}
  {gf:Nat} {lb:Array Value} (hg:a.eval g= .func (.func gf) #[] lb) (eg: ∀args w,(callFunc gf args).run P w= .ok (.enter gf args) w)
  {encs:α->Array Value} (hps: ∀x,(encs x).size=ps.size) {Pre:α->World->World->Prop} {Step:List α->α->Prop} {End:List α->Prop} {Oc:World->Prop}
  (a₁:α->World->Act) (w₁:α->World->World) (hw₁: ∀x W,Below W.heap.size W (w₁ x W))
  (akJ: ∀x W0 W l r r',Pre x W0 W->(w₁ x W).heap[l]?=some (.loop r)->Pre x W0 ((w₁ x W).putObj l (.loop r')))
  (hiter: ∀W1,Below w.heap.size w W1->w.heap.size<=W1.heap.size->Rw P T w.heap.size gf lb encs Pre Step End Oc W1)
  (I:List α->World->Prop) (Ix:Code->World->Prop) (hI: ∀pre A B,I pre A->bF T w.heap.size A B->I pre B) (hIx: ∀c A B,Ix c A->bF T w.heap.size A B->Ix c B) (hAux: ∀pre W,I pre W->Oc W) (h0:I [] w)
  (hassign: ∀(l:Nat) (x:α) (W:World) (K:Act->World->Prop),K (a₁ x W) (w₁ x W)->
   assign.wpIn (Fence.wide.inRound l) 7 P (Exit.then K (fun _ _ _=>False)) {tmps:=(ps.zip (encs x)).foldl (fun t (p,v)=>t.setIfInBounds p v) a.tmps,defers:= []} W)
  (hbody: ∀(l:Nat) (pre:List α) (x:α) (W0 Wa W:World),I pre W0->bF T w.heap.size W0 Wa->bF T w.heap.size Wa W->(∀(b:Nat) (t:TypeId) (c:Array Value),aj (w₁ x Wa) b t c->aj W b t c)->W.heap.size=(w₁ x Wa).heap.size->Pre x W0 W->Step pre x->w.heap.size<=l->w.heap.size<=W0.heap.size->
   body.wpIn (Fence.wide.inRound l) 7 P (ahu w.heap.size T I Ix (pre ++ [x]) W) (a₁ x Wa) W)
  (hdone: ∀(D:Nat) (xs:List α) (W:World),w.heap.size<=D->End xs->I xs W->W.heap[D]?=some (.deferred (some []))->Q .normal {a with defers:={target:= .collected D,args:= #[]} :: a.defers} W)
  (hstop: ∀(D:Nat) (c:Code) (W:World),w.heap.size<=D->Ix c W->W.heap[D]?=some (.deferred (some []))->c.wpIn Fence.wide 9 P Q {a with defers:={target:= .collected D,args:= #[]} :: a.defers} W):
  (Code.rangeFunc g ps assign body).wpIn Fence.wide 9 P Q a w:=by
 refine wpIn_rangeFunc ?_;intro fn hfn;have hro:Fence.wide.round=none:=rfl;rw [hro]
 obtain ⟨rec,hrec⟩: ∃rec:LoopState->Option Code->Loop,rec=fun st pe=>{state:=st,pending:=pe,fn,tmps:=a.tmps,params:=ps,assign,body,defers:=w.heap.size}:=⟨_,rfl⟩
 obtain ⟨W1,hW1⟩: ∃W1,(w.alloc (.deferred (some []))).alloc (.loop (rec .ready none))=W1:=⟨_,rfl⟩
 have hL1:W1.heap[w.heap.size+1]?=some (.loop (rec .ready none)):=by
  rw [<-hW1];have:=World.alloc_heap_new (w.alloc (.deferred (some []))) (.loop (rec .ready none));rwa [World.size_alloc] at this
 have hK1:W1.heap[w.heap.size]?=some (.deferred (some [])):=by
  rw [<-hW1];exact (Below.heap_alloc _ _ _ (by simp)).trans (World.alloc_heap_new w _)
 have hb1:Below w.heap.size w W1:=by
  rw [<-hW1];exact ((Below.refl _ w).alloc (ab1 _) _).alloc (by simp) _
 have hs1:W1.heap.size=w.heap.size+2:=by rw [<-hW1];simp
 have hI1:I [] W1:=hI _ _ _ h0 (.of_below hb1)
 have wide: ∀{A B:World},bF T W1.heap.size A B->bF T w.heap.size A B:=fun h=>⟨h.os,h.tape,h.output,h.size,fun k hk hA=>h.low k (by omega) hA,h.block⟩
 refine ⟨w.heap.size+1, [{target:= .collected w.heap.size,args:= #[]}],W1,{target:= .fn (.func gf) lb,args:= #[.func (.yield (w.heap.size+1)) #[] #[]]},W1,gf,
  #[.func (.yield (w.heap.size+1)) #[] #[]] ++ lb,W1, ?_, ?_, ?_, ?_,fun _=>by omega, ?_⟩
 ·rw [<-hW1,hrec];exact run_enterLoop_outer _ _ _ _ _
 ·simp only [resolve,hg]
  simp [go_sem]
 ·intro f' hf';exact trivial
 ·simp [invoke,go_sem,eg]
 have book: ∀{A B:World},bF T W1.heap.size A B->A.heap[w.heap.size+1]?=some (.loop (rec .ready none))->A.heap[w.heap.size]?=some (.deferred (some []))->
   B.heap[w.heap.size+1]?=some (.loop (rec .ready none))/\B.heap[w.heap.size]?=some (.deferred (some [])):=fun h h1 h2=>
  ⟨(h.low _ (by omega) (acI.1 h1).1).trans h1,(h.low _ (by omega) (acI.1 h2).1).trans h2⟩
 refine (hiter W1 hb1 (by omega) (w.heap.size+1)
  (fun pre W=>I pre W/\W.heap[w.heap.size+1]?=some (.loop (rec .ready none))/\W.heap[w.heap.size]?=some (.deferred (some [])))
  (fun W=>(∃pre,End pre/\I pre W/\W.heap[w.heap.size+1]?=some (.loop (rec .ready none))/\W.heap[w.heap.size]?=some (.deferred (some [])))\/
   ∃c,Ix c W/\W.heap[w.heap.size+1]?=some (.loop (rec .done (some c)))/\W.heap[w.heap.size]?=some (.deferred (some [])))
  (fun pre W h=>hAux pre W h.1) ?_ ?_ ?_ ⟨hI1,hL1,hK1⟩).mono ?_
 ·rintro pre A B ⟨h1,h2,h3⟩ h
  exact ⟨hI _ _ _ h1 (wide h),book h h2 h3⟩
 ·
  rintro pre x W0 W ⟨hi,hl0,hk0⟩ hsame hpre hstep;obtain ⟨hl,hk⟩:=book hsame hl0 hk0
  have hlt:w.heap.size+1<W.heap.size:=(acI.1 hl).1
  have hy:=run_yield (P:=P) (args:=encs x) hl (by rw [hrec];exact hps x)
  rw [hrec] at hy;have Gq:=hw₁ x W;obtain ⟨WA,Gs⟩: ∃WA,w₁ x W=WA:=⟨_,rfl⟩;rw [Gs] at Gq
  have hl':WA.heap[w.heap.size+1]?=some (.loop (rec .ready none)):=(Gq.block _ hlt).trans hl
  have hk':WA.heap[w.heap.size]?=some (.deferred (some [])):=(Gq.block _ (by omega)).trans hk
  have akK:w.heap.size+1<WA.heap.size:=adf hlt Gq.size
  refine ⟨fn,_,assign,body,hy,roundIn_of_wpIn trivial (hassign _ x W _ ?_)⟩;rw [Gs]
  refine ⟨_,run_beginRound hl' (by rw [hrec]), ?_⟩
  have hl2:(WA.putObj (w.heap.size+1) (.loop {rec .ready none with state:= .busy})).heap[w.heap.size+1]?=some (.loop {rec .ready none with state:= .busy}):=World.putObj_heap_same akK
  have hk2:(WA.putObj (w.heap.size+1) (.loop {rec .ready none with state:= .busy})).heap[w.heap.size]?=some (.deferred (some [])):=(World.putObj_heap_other (by omega)).trans hk'
  have hs2:bF T w.heap.size W (WA.putObj (w.heap.size+1) (.loop {rec .ready none with state:= .busy})):=(bF.of_below Gq).trans (bF.putObj _ hl' (by omega))
  have hblk: ∀(b:Nat) (t:TypeId) (c:Array Value),aj (w₁ x W) b t c->aj (WA.putObj (w.heap.size+1) (.loop {rec .ready none with state:= .busy})) b t c:=fun b t c h=>by
   rw [Gs] at h
   exact (World.putObj_heap_other (fun e=>by subst e;unfold aj at h;rw [hl'] at h;cases h)).trans h
  refine wpIn_mono (hbody _ pre x W0 W _ hi (wide hsame) hs2 hblk (by rw [Gs];simp [World.putObj]) (by have:=akJ x W0 W (w.heap.size+1) _ {rec .ready none with state:= .busy} hpre (by rw [Gs];exact hl');rw [Gs] at this;exact this) hstep (by omega) (by have:=(acI.1 hl0).1;omega)) ?_
  have fin: ∀(jump:Option Code) (W3:World),KeepsFrom w.heap.size (WA.putObj (w.heap.size+1) (.loop {rec .ready none with state:= .busy})) W3->
    (Instr.endRound (w.heap.size+1) jump).run P W3= .ok (.bool jump.isNone) (W3.putObj (w.heap.size+1) (.loop (rec (if jump.isNone then .ready else .done) jump)))/\
    W3.heap[w.heap.size+1]?=some (.loop {rec .ready none with state:= .busy})/\
    (W3.putObj (w.heap.size+1) (.loop (rec (if jump.isNone then .ready else .done) jump))).heap[w.heap.size+1]?=some (.loop (rec (if jump.isNone then .ready else .done) jump))/\
    (W3.putObj (w.heap.size+1) (.loop (rec (if jump.isNone then .ready else .done) jump))).heap[w.heap.size]?=some (.deferred (some [])):=fun jump W3 hk3=>by
   have hl3:=hk3.same _ _ (by omega) hl2 rfl
   have:=run_endRound (P:=P) jump hl3;rw [hrec] at this⊢
   exact ⟨this,by rw [hrec] at hl3;exact hl3,World.putObj_heap_same (acI.1 hl3).1,(World.putObj_heap_other (by omega)).trans (hk3.same _ _ (ab1 _) hk2 rfl)⟩
  have acj: ∀(V:World) (r r':Loop),V.heap[w.heap.size+1]?=some (.loop r)->jO T V (V.putObj (w.heap.size+1) (.loop r')):=fun V r r' h=>
   ⟨by simp [World.putObj],fun k c fz hc=>(World.putObj_heap_other (fun e=>by subst e;rw [h] at hc;cases hc)).trans hc⟩
  rintro e a3 W3 hp;cases e with
  | normal=>
   obtain ⟨hk3,hkp3,hi3⟩:=hp;obtain ⟨hr,hl3,hl4,hk4⟩:=fin none W3 hk3
   exact ⟨_,_,hr, .inl ⟨rfl,⟨hI _ _ _ hi3 (bF.putObj _ hl3 (by omega)),hl4,hk4⟩,(jO.of_below Gq).trans ((acj WA _ _ hl').trans (hkp3.trans (acj W3 _ _ hl3)))⟩⟩
  | ret=>
   obtain ⟨hk3,hi3⟩:=hp;obtain ⟨hr,hl3,hl4,hk4⟩:=fin (some .ret) W3 hk3
   exact ⟨_,_,hr, .inr ⟨rfl, .inr ⟨.ret,hIx _ _ _ hi3 (bF.putObj _ hl3 (by omega)),hl4,hk4⟩⟩⟩
  | exit id=>
   obtain ⟨hk3,hi3⟩:=hp;obtain ⟨hr,hl3,hl4,hk4⟩:=fin (some (.exit id)) W3 hk3
   exact ⟨_,_,hr, .inr ⟨rfl, .inr ⟨.exit id,hIx _ _ _ hi3 (bF.putObj _ hl3 (by omega)),hl4,hk4⟩⟩⟩
  | goto t=>
   obtain ⟨hk3,hi3⟩:=hp;obtain ⟨hr,hl3,hl4,hk4⟩:=fin (some (.goto t)) W3 hk3
   exact ⟨_,_,hr, .inr ⟨rfl, .inr ⟨.goto t,hIx _ _ _ hi3 (bF.putObj _ hl3 (by omega)),hl4,hk4⟩⟩⟩
  | panic ch=>exact hp.elim
  | outgrown=>exact hp.elim
 ·rintro pre W ⟨h1,h2,h3⟩ hend
  exact .inl ⟨pre,hend,h1,h2,h3⟩
 rintro e W2 ⟨⟨v,rfl⟩,(⟨xs,hend,hi,hl,hk⟩ |⟨c,hi,hl,hk⟩)⟩
 ·exact ⟨none,_,by have:=run_endLoop (P:=P) hl (by rw [hrec];simp);rw [hrec] at this;exact this,hdone _ xs _ (ab1 _) hend (hI _ _ _ hi (bF.putObj _ hl (by omega))) ((World.putObj_heap_other (by omega)).trans hk)⟩
 exact ⟨some c,_,by have:=run_endLoop (P:=P) hl (by rw [hrec];simp);rw [hrec] at this;exact this,hstop _ c _ (ab1 _) (hIx _ _ _ hi (bF.putObj _ hl (by omega))) ((World.putObj_heap_other (by omega)).trans hk)⟩
attribute [local go_sem] Oper.semAt_some
namespace Lex
theorem ZM: ∀(k:Nat) (l:List UInt8) (i:Nat),(scan k l i).1.length<=l.length
 | 0,l,i=>by simp [scan]
 | k+1, [],i=>by simp [scan]
 | k+1,c :: r,i=>by
  cases ht:tok1 (c :: r) with
  | err o e=>rw [AX (by simp) ht];simp
  | tok kd tx nm n=>
   obtain ⟨t1,t2⟩:=Ib ht
   have ih:=ZM k ((c :: r).drop (n+gap false ((c :: r).drop n))) (i+n+gap false ((c :: r).drop n))
   rw [yY ht rfl,acd];rw [acM] at ih;omega
theorem IJ: ∀(k:Nat) (l:List UInt8) (i:Nat) {p e:Nat},(scan k l i).2=some (p,e)->e≠0
 | 0,l,i,p,e,h=>by simp [scan] at h
 | k+1, [],i,p,e,h=>by simp [scan] at h
 | k+1,c :: r,i,p,e,h=>by
  cases ht:tok1 (c :: r) with
  | err o e'=>
   rw [AX (by simp) ht] at h
   have:=(Qj (by simp) ht).1
   cases h;exact this
  | tok kd tx nm n=>
   rw [yY ht rfl] at h;exact IJ k _ _ h
theorem ahz (l:List UInt8):(read l).1.length<=16777216:=by
 unfold read
 split
 ·simp
 have:=ZM (l.length+1) (l.drop (gap false l)) (0+gap false l);unfold body;rw [acM] at this
 omega
theorem ahA {l:List UInt8} {p e:Nat} (h:(read l).2=some (p,e)):e≠0:=by
 unfold read at h
 split at h
 ·cases h;decide
 exact IJ _ _ _ h
theorem ahB (x:List Tok×Option (Nat×Nat)):(items x).length<=x.1.length+1:=by
 unfold items;rw [dA,ace];cases x.2<;> simp
theorem ahC {x:List Tok×Option (Nat×Nat)} {t:Tok} {e:Nat} (h:(t,e)∈items x) (he:e≠0):x.2=some (t.pos,e)/\t=⟨0, [],0,t.pos⟩:=by
 unfold items at h
 rcases acU.1 h with h | h
 ·obtain ⟨u,_,hu⟩:=ad5.1 h
  cases hu;exact absurd rfl he
 cases hx:x.2 with
 | none=>rw [hx] at h;cases h
 | some y=>
  obtain ⟨p,e'⟩:=y;rw [hx] at h;obtain h:=adg.1 h;cases h;exact ⟨rfl,rfl⟩
theorem ahD {x:List Tok×Option (Nat×Nat)} (hx: ∀p e,x.2=some (p,e)->e≠0) (h: ∀y∈items x,y.2=0):x.2=none/\items x=x.1.map (fun t=>(t,0)):=by
 cases h2:x.2 with
 | none=>
  refine ⟨rfl, ?_⟩;unfold items;rw [h2,acK]
 | some y=>
  obtain ⟨p,e⟩:=y
  exact absurd (h (⟨0, [],0,p⟩,e) (by unfold items;rw [h2];simp)) (hx p e h2)
end Lex
theorem RF {V:World} {b:Nat} {t:TypeId} {c:Array Value} (h:aj V b t c):aj V.drew b t c:=h
def Bz (t:Lex.Tok):List Value:= [.int .i64 (t.kind:Int), .string ⟨t.text.toArray⟩, .int .i64 t.num, .int .i64 (t.pos:Int)]
def oD (l:List Lex.Tok):List Value:=l.flatMap Bz
theorem ahE (l:List Lex.Tok) (t:Lex.Tok):oD (l ++ [t])=oD l ++ Bz t:=by simp [oD]
def Dx (w:World) (B:Nat) (v:Value) (l:List Lex.Tok):Prop:=w.ownsRow B 138 4 v l.length (oD l)
theorem ahF:(Tryz.prog.info? 138).map (fun i=>(i.zero,i.size,i.bytes))=some (some (.agg #[.int .i64 0, .string ⟨#[]⟩, .int .i64 0, .int .i64 0]),4,40):=by kernel_rfl
theorem ahG (s:ByteArray) (w:World):
  Calls Tryz.prog 83 #[.string s] w fun e w'=>e= .returned (.func (.func 141) #[] #[.pointer (some ⟨w.heap.size,0,none⟩)])/\w.alloc (.cells #[.string s] 9)=w':=by
 go_enter Tryz.func83,Tryz.ntmps83;go_wp2;go_ret;exact ⟨rfl,rfl⟩
def ahH (x:List Lex.Tok×Option (Nat×Nat)) (w:World) (e:Ending) (w':World):Prop:=
 Below w.heap.size w w'/\match x.2 with
  | none=> ∃v,e= .returned (.tuple #[v, .int .i64 0, .int .i64 0])/\Dx w' w.heap.size v x.1
  | some (p,k)=>e= .returned (.tuple #[.slice none 0 0, .int .i64 (p:Int), .int .i64 (k:Int)])
def akL (x:LY) (W:World):World:=W.alloc (.cells #[.int .i64 (x.1.kind:Int), .string ⟨x.1.text.toArray⟩, .int .i64 x.1.num, .int .i64 (x.1.pos:Int)] 138)
theorem ahI (s:ByteArray) (hs:s.size<=1073741823) (w:World) (hL:Laid w):
  Calls Tryz.prog 47 #[.string s] w (ahH (Lex.read s.data.toList) w):=by
 obtain ⟨i0,hi,hz0,hz1,hz2⟩:=info_parts ahF;have dR:=ah hL;clear hL
 refine Rx Tryz.func47 rfl ?_
 simp only [Tryz.ntmps47,amb,acd,adk,Nat.reduceAdd,Nat.reduceSub,anX,aoe,aoO,alO,adI,adV]
 go_wp2_with (go_at_call 83;refine (ahG _ _).mono ?_;rintro e w' ⟨rfl,rfl⟩)
 obtain ⟨W,hW⟩: ∃W,(((w.alloc (.cells #[.slice none 0 0] 90)).alloc (.cells #[.int .i64 0] 3)).alloc (.cells #[.int .i64 0] 29)).alloc (.cells #[.string s] 9)=W:=⟨_,rfl⟩
 have hsz:W.heap.size=w.heap.size+4:=by rw [<-hW];simp
 have b0:aj W w.heap.size 90 #[.slice none 0 0]:=by rw [<-hW];exact (((aj.new _ _ _).alloc _).alloc _).alloc _
 have b1:aj W (w.heap.size+1) 3 #[.int .i64 0]:=by rw [<-hW];have:=((aj.new (w.alloc (.cells #[.slice none 0 0] 90)) 3 #[.int .i64 0]).alloc (.cells #[.int .i64 0] 29)).alloc (.cells #[.string s] 9);simpa using this
 have b2:aj W (w.heap.size+2) 29 #[.int .i64 0]:=by rw [<-hW];have:=(aj.new ((w.alloc (.cells #[.slice none 0 0] 90)).alloc (.cells #[.int .i64 0] 3)) 29 #[.int .i64 0]).alloc (.cells #[.string s] 9);simpa using this
 have b3:aj W (w.heap.size+3) 9 #[.string s]:=by rw [<-hW];have:=aj.new (((w.alloc (.cells #[.slice none 0 0] 90)).alloc (.cells #[.int .i64 0] 3)).alloc (.cells #[.int .i64 0] 29)) 9 #[.string s];simpa using this
 have bb:Below w.heap.size w W:=by rw [<-hW];exact ((((Below.refl _ w).alloc (ab1 _) _).alloc (by simp) _).alloc (by simp;omega) _).alloc (by simp;omega) _
 rw [hW];clear hW;refine (wpIn_wide (n:=9)).1 ?_
 refine' RD 207 (gf:=141) (lb:= #[.pointer (some ⟨w.heap.size+3,0,none⟩)]) rfl (enters_of Tryz.func141 (by kernel_rfl) rfl) (encs:=Ry) (fun x=>rfl) (Pre:=fun _ _ _=>True) _ akL (fun x W=>(Below.refl _ W).alloc (ab1 _) _) (fun _ _ _ _ _ _ _ _=>trivial)
  (fun W1 hb hn=>ahy s hs W.heap.size (w.heap.size+3) (by omega) W1 hn)
  (fun pre V=>(∃vo,aj V w.heap.size 90 #[vo]/\Dx V w.heap.size vo (pre.map (·.1)))/\aj V (w.heap.size+1) 3 #[.int .i64 0]/\aj V (w.heap.size+2) 29 #[.int .i64 0]/\aj V (w.heap.size+3) 9 #[.string s]/\Below w.heap.size w V/\(∀y∈pre,y.2=0))
  (fun c V=>c= .ret/\ ∃p e,(Lex.read s.data.toList).2=some (p,e)/\aj V w.heap.size 90 #[.slice none 0 0]/\aj V (w.heap.size+1) 3 #[.int .i64 (p:Int)]/\aj V (w.heap.size+2) 29 #[.int .i64 (e:Int)]/\Below w.heap.size w V)
  ?hI ?hIx ?hAux ⟨⟨_,b0,World.ownsRow_nil _ _ _ _⟩,b1,b2,b3,bb,by simp⟩ ?assign ?body ?done ?stop
 case hI=>
  rintro pre A B ⟨⟨vo,h1,h2⟩,h3,h4,h5,h6,h7⟩ hs
  exact ⟨⟨vo,hs.blk h1 (by decide),hs.own h2 (by decide)⟩,hs.blk h3 (by decide),hs.blk h4 (by decide),hs.blk h5 (by decide),h6.trans (hs.below (by omega) h6.size),h7⟩
 case hIx=>
  rintro c A B ⟨hc,p,e,h0,h1,h2,h3,h4⟩ hs
  exact ⟨hc,p,e,h0,hs.blk h1 (by decide),hs.blk h2 (by decide),hs.blk h3 (by decide),h4.trans (hs.below (by omega) h4.size)⟩
 case hAux=>
  rintro pre V ⟨_,_,_,h5,h6,_⟩;exact ⟨h5.cell 0,dR.out.below h6⟩
 case assign=>
  intro l x V K hK;simp only [Ry,tokA]
  gi_wp2
  exact hK
 case body=>
  rintro l pre x W0 Va V ⟨⟨vo,h1,h2⟩,h3,h4,h5,h6,h7⟩ hs1 hs2 hblk - - hstep hl hn0
  have hs':=hs1.trans hs2;obtain ⟨⟨kd,tx,nm,ps⟩,e⟩:=x
  have g1:=hs'.blk h1 (show 90≠207 by decide)
  have g3:=hs'.blk h3 (show 3≠207 by decide)
  have g4:=hs'.blk h4 (show 29≠207 by decide)
  have g5:=hs'.blk h5 (show 9≠207 by decide)
  have g6:=h6.trans (hs'.below (by omega) h6.size)
  have g2:Dx V w.heap.size vo (pre.map (·.1)):=hs'.own h2 (by decide)
  have gt:=hblk Va.heap.size 138 #[.int .i64 (kd:Int), .string ⟨tx.toArray⟩, .int .i64 nm, .int .i64 (ps:Int)] (aj.new _ _ _)
  have c1:=g1.cell 0;have f1:=g1.frozen 0;have c3:=g3.cell 0;have f3:=g3.frozen 0
  have c4:=g4.cell 0;have f4:=g4.frozen 0;have m0:=gt.cell 0;have m1:=gt.cell 1
  have m2:=gt.cell 2;have m3:=gt.cell 3;simp at c1 c3 c4 m0 m1 m2 m3;have wC:=ah g1
  have wE:=ah g3;have sO:=ah g4;have Og:=ah g5;have sQ:=ah g6;have HG2:=ah g2
  have HST:=ah hstep;have H7:=ah h7
  have hlen:pre.length<=16777217:=by
   have q1:=hstep.length_le;have q2:=Lex.ahB (Lex.read s.data.toList)
   have q3:=Lex.ahz s.data.toList;rw [dA,adX] at q1;omega
  obtain ⟨n,hn⟩: ∃n,pre.length=n:=⟨_,rfl⟩
  have g2':V.ownsRow w.heap.size 138 4 vo n (oD (pre.map (·.1))):=by
   have:=g2;unfold Dx at this
   rwa [ace,hn] at this
  obtain ⟨Ao,co,rfl⟩:=aJ g2';have HN:=ah hn;have iK:=ah g2';rw [hn] at hlen
  clear hn g2' HG2
  clear hs' hs1 hs2 hblk h1 h2 h3 h4 h5 h6 h7 hstep g1 g2 g3 g4 g5 g6 gt hsz b0 b1 b2 b3 bb
  by_cases he:e=0
  ·subst he
   gi_wp2_with (gi_at_builtin;refine wpListIn_append_own _ rfl _ _ 90 rfl w.heap.size 138 i0 (.agg #[.int .i64 0, .string ⟨#[]⟩, .int .i64 0, .int .i64 0]) 4 40 Tryz.underlying90 hi hz0 hz1 hz2 rfl (by decide) _ _ _ rfl (World.ownsRow.alloc iK.out _) ⟨V.heap.size,0,none⟩ 1 1 [.int .i64 (kd:Int), .string ⟨tx.toArray⟩, .int .i64 nm, .int .i64 (ps:Int)] rfl rfl ?c1 ?c2 ?c3 ?c4 ?c5 ?_)
   case c1=>
    intro j u h
    have hb:=aj.new V 138 #[.int .i64 (kd:Int), .string ⟨tx.toArray⟩, .int .i64 nm, .int .i64 (ps:Int)]
    match j,h with
    | 0,h=>cases h;exact hb.cell 0
    | 1,h=>cases h;exact hb.cell 1
    | 2,h=>cases h;exact hb.cell 2
    | 3,h=>cases h;exact hb.cell 3
   case c2=>simp [Value.oneCell']
   case c3=>unfold maxLen;omega
   case c4=>omega
   case c5=>have:=sQ.out.size;simp;omega
   intro v' V2 hown' hgrow _;obtain ⟨g',cap',rfl⟩:=ownsRow_succ hown';have hnb:=mG iK.out
   have acn: ∀g c t fz,(Value.slice Ao n co).ownBlock=some g->(V.alloc (.cells #[.int .i64 (kd:Int), .string ⟨tx.toArray⟩, .int .i64 nm, .int .i64 (ps:Int)] 138)).heap[g]?=some (.cells c t fz)->t=138:=fun g c t fz e hc=>by
    obtain ⟨_,c',hc'⟩:=hnb g e;rw [Below.heap_alloc _ _ _ (acI.1 hc').1,hc'] at hc
    cases hc;rfl
   have hne: ∀(b:Nat) (t:TypeId) (c:Array Value),aj V b t c->t≠138->some b≠(Value.slice Ao n co).ownBlock:=fun b t c hb ht e=>by
    obtain ⟨_,c',hc'⟩:=hnb b e.symm;unfold aj at hb;rw [hc'] at hb;cases hb;exact ht rfl
   have k1:aj V2 w.heap.size 90 #[.slice Ao n co]:=aj.grown (aj.alloc wC.out _) hgrow (hne _ _ _ wC.out (by decide))
   have k3:aj V2 (w.heap.size+1) 3 #[.int .i64 0]:=aj.grown (aj.alloc wE.out _) hgrow (hne _ _ _ wE.out (by decide))
   have k4:aj V2 (w.heap.size+2) 29 #[.int .i64 0]:=aj.grown (aj.alloc sO.out _) hgrow (hne _ _ _ sO.out (by decide))
   have k5:aj V2 (w.heap.size+3) 9 #[.string s]:=aj.grown (aj.alloc Og.out _) hgrow (hne _ _ _ Og.out (by decide))
   have k6:Below w.heap.size w V2:=(sQ.out.alloc sQ.out.size _).grown hgrow (by have:=sQ.out.size;simp;omega) (fun k e=>(hnb k e).1)
   have c2:=k1.cell 0;have f2:=k1.frozen 0;simp at c2;have aT:=ah k1;have bJ:=ah k3
   have BP:=ah k4;have dY:=ah k5;have qZ:=ah k6;have HOW:=ah hown';have Gt:=ah hgrow
   have oM:=ah hnb;have HRT:=ah acn
   clear k1 k3 k4 k5 k6 hne hnb hown' hgrow acn c1 f1 c3 f3 c4 f4 m0 m1 m2 m3
   gi_wp2
   have hset:=grownBy_set V2 ⟨w.heap.size,0,none⟩ (.slice (some ⟨g',0,none⟩) (n+1) cap')
   have aco: ∀g c t fz,some (⟨w.heap.size,0,none⟩:Addr).block=some g->V2.heap[g]?=some (.cells c t fz)->t=90:=fun g c t fz e hc=>by
    cases e;have:=aT.out;unfold aj at this
    rw [show V2.heap[w.heap.size]?=some (.cells c t fz) from hc] at this
    cases this;rfl
   refine ⟨((KeepsOthers.alloc _ _).from _).trans (((KeepsOthers.of_grownBy Gt.out (fun j o e ho=> ?_)).from _).trans ((KeepsOthers.setCell _ _ _).from _)), ?_,⟨_,aj.aS aT.out 0 _, ?_⟩,aj.far bJ.out (by simp) _,aj.far BP.out (by simp) _,aj.far dY.out (by simp) _,qZ.out.setCell (p:=⟨w.heap.size,0,none⟩) (ab1 _) _, ?_⟩
   ·obtain ⟨_,c',hc'⟩:=oM.out j e
    rw [Below.heap_alloc _ _ _ (acI.1 hc').1,hc'] at ho;cases ho;rfl
   ·refine (jO.vN (World.grownBy_alloc _ _ none) (fun g c fz e=>by cases e)).trans ((jO.vN Gt.out (fun g c fz e hc=> ?_)).trans (jO.vN hset (fun g c fz e hc=> ?_)))
    ·exact absurd (HRT.out g c _ fz e hc) (by decide)
    exact absurd (aco g c _ fz e hc) (by decide)
   ·have:=dS HOW.out hset (fun g c t fz e hc=>by rw [aco g c t fz e hc];decide)
    unfold Dx;rw [ade,dA,ace,HN.out]
    show World.ownsRow _ _ _ _ _ (n+1) (oD (pre.map (·.1) ++ [_]))
    rw [ahE];exact this
   intro y hy
   rcases acU.1 hy with h | h
   ·exact H7.out y h
   rw [adg.1 h]
  have heb:((e:Int) !=0)=true:=by rw [acV];omega
  have hmem:((⟨kd,tx,nm,ps⟩:Lex.Tok),e)∈Lex.items (Lex.read s.data.toList):=HST.out.subset (by simp)
  obtain ⟨q1,q2⟩:=Lex.ahC hmem he;have Q1:=ah q1;clear q1 q2 hmem
  gi_wp2
  gi_region
  all_goals gi_wp2
  all_goals
   refine ⟨((((KeepsOthers.setCell _ _ _).from _).trans ((KeepsOthers.setCell _ _ _).from _)).trans ((KeepsOthers.setCell _ _ _).from _)).trans ((KeepsOthers.drew _).from _),rfl,ps,e,Q1.out, ?_, ?_, ?_, ?_⟩
   ·exact RF (aj.far (aj.far (aj.aS wC.out 0 _) (by first |(simp;done) |(simp;omega)) _) (by first |(simp;done) |(simp;omega)) _)
   ·exact RF (aj.far (aj.aS (aj.far wE.out (by first |(simp;done) |(simp;omega)) _) 0 _) (by first |(simp;done) |(simp;omega)) _)
   ·exact RF (aj.aS (aj.far (aj.far sO.out (by first |(simp;done) |(simp;omega)) _) (by first |(simp;done) |(simp;omega)) _) 0 _)
   exact Below.drew (((sQ.out.setCell (by first |(simp;done) |(simp;omega)) _).setCell (by first |(simp;done) |(simp;omega)) _).setCell (by first |(simp;done) |(simp;omega)) _)
 case done=>
  rintro D xs V hD hend ⟨⟨vo,h1,h2⟩,h3,h4,h5,h6,h7⟩ hK
  have hall:(Lex.read s.data.toList).2=none/\Lex.items (Lex.read s.data.toList)=(Lex.read s.data.toList).1.map (fun t=>(t,0)):=Lex.ahD (fun p e h=>Lex.ahA h) (fun y hy=>h7 y (by rw [hend];exact hy))
  have hxs:xs.map (·.1)=(Lex.read s.data.toList).1:=by
   rw [hend,hall.2,aez];exact List.map_id' _
  rw [hxs] at h2;obtain ⟨T,hT⟩: ∃T,(Lex.read s.data.toList).1=T:=⟨_,rfl⟩;rw [hT] at h2
  obtain ⟨Ao,co,rfl⟩:=aJ h2;have c1:=h1.cell 0;have f1:=h1.frozen 0;have c3:=h3.cell 0
  have f3:=h3.frozen 0;have c4:=h4.cell 0;have f4:=h4.frozen 0;simp at c1 c3 c4
  have HA:=ah hall.1;have HT:=ah hT;have H1:=ah h1;have H2:=ah h2;have H3:=ah h3
  have H4:=ah h4;have H6:=ah h6;have wF:=ah hK;have dL:=ah hsz;have ku:=ah hD
  obtain ⟨n,hn⟩: ∃n,T.length=n:=⟨_,rfl⟩;rw [hn] at c1;have ay:=ah hn
  clear hall hxs hT h1 h2 h3 h4 h5 h6 h7 hend hK hsz hD hn b0 b1 b2 b3 bb;go_wp2
  have n0:D≠w.heap.size:=by have:=dL.out;have:=ku.out;omega
  have n1:D≠w.heap.size+1:=by have:=dL.out;have:=ku.out;omega
  have n2:D≠w.heap.size+1+1:=by have:=dL.out;have:=ku.out;omega
  have hK2:(((V.setCell ⟨w.heap.size,0,none⟩ (.slice Ao n co)).setCell ⟨w.heap.size+1,0,none⟩ (.int .i64 0)).setCell ⟨w.heap.size+1+1,0,none⟩ (.int .i64 0)).heap[D]?=some (.deferred (some [])):=by
   rw [Below.heap_setCell _ _ _ _ n2,Below.heap_setCell _ _ _ _ n1,Below.heap_setCell _ _ _ _ n0]
   exact wF.out
  have B1:=Dw (o:= .deferred none) hK2 (aj.far (p:=⟨w.heap.size+1+1,0,none⟩) (aj.far (aj.aS H1.out 0 (.slice Ao n co)) (p:=⟨w.heap.size+1,0,none⟩) (by simp) (.int .i64 0)) (by simp;omega) (.int .i64 0))
  have B3:=Dw (o:= .deferred none) hK2 (aj.far (p:=⟨w.heap.size+1+1,0,none⟩) (aj.aS (aj.far H3.out (p:=⟨w.heap.size,0,none⟩) (by simp) (.slice Ao n co)) 0 (.int .i64 0)) (by simp) (.int .i64 0))
  have B4:=Dw (o:= .deferred none) hK2 (aj.aS (aj.far (p:=⟨w.heap.size+1,0,none⟩) (aj.far H4.out (p:=⟨w.heap.size,0,none⟩) (by simp) (.slice Ao n co)) (by simp) (.int .i64 0)) 0 (.int .i64 0))
  have q1:=B1.cell 0;have q3:=B3.cell 0;have q4:=B4.cell 0;simp at q1 q3 q4
  refine Nk hK2 (v:= .tuple #[.slice Ao n co, .int .i64 0, .int .i64 0]) (by simp [results,Tryz.results47,go_sem,q1,q3,q4]) ?_
  refine ⟨Nj (((H6.out.setCell (p:=⟨w.heap.size,0,none⟩) (ab1 _) _).setCell (p:=⟨w.heap.size+1,0,none⟩) (by simp) _).setCell (p:=⟨w.heap.size+1+1,0,none⟩) (by simp;omega) _) (by have:=dL.out;have:=ku.out;omega), ?_⟩
  rw [HA.out];refine ⟨_,rfl, ?_⟩;rw [HT.out];unfold Dx;rw [ay.out];refine ZK hK2 ?_
  have h2':=H2.out;unfold Dx at h2';rw [ay.out] at h2'
  have ty: ∀{X:World} {b:Nat} {t:TypeId} {c0:Array Value} {v:Value},aj X b t c0->t≠138->X.ownsRow w.heap.size 138 4 (.slice Ao n co) n (oD T)->(X.setCell ⟨b,0,none⟩ v).ownsRow w.heap.size 138 4 (.slice Ao n co) n (oD T):=fun {X b t c0 v} hb ht ho=>
   dS ho (grownBy_set _ _ _) (fun g c t' fz e hc=>by
    cases e;unfold aj at hb;rw [show X.heap[b]?=some (.cells c t' fz) from hc] at hb
    cases hb
    exact ht)
  exact ty (aj.far (p:=⟨w.heap.size+1,0,none⟩) (aj.far H4.out (p:=⟨w.heap.size,0,none⟩) (by simp) _) (by simp) _) (by decide) (ty (aj.far H3.out (p:=⟨w.heap.size,0,none⟩) (by simp) _) (by decide) (ty H1.out (by decide) h2'))
 rintro D c V hD ⟨rfl,p,e,h0,h1,h3,h4,h6⟩ hK;refine wpIn_wide.2 ?_;have H0:=ah h0
 have H1:=ah h1;have H3:=ah h3;have H4:=ah h4;have H6:=ah h6;have wF:=ah hK
 have dL:=ah hsz;have ku:=ah hD;clear h0 h1 h3 h4 h6 hK hsz hD b0 b1 b2 b3 bb;go_wp2
 have B1:=Dw (o:= .deferred none) wF.out H1.out
 have B3:=Dw (o:= .deferred none) wF.out H3.out
 have B4:=Dw (o:= .deferred none) wF.out H4.out;have q1:=B1.cell 0;have q3:=B3.cell 0
 have q4:=B4.cell 0;simp at q1 q3 q4
 refine Nk wF.out (v:= .tuple #[.slice none 0 0, .int .i64 p, .int .i64 e]) (by simp [results,Tryz.results47,go_sem,q1,q3,q4]) ?_
 exact ⟨Nj H6.out (by have:=dL.out;have:=ku.out;omega),by rw [H0.out]⟩
end Go.Proofs.YtoofbflplhbpbaaGreatDoor
namespace Go.Proofs.YtoofbflplhbpbaaGreatDoor
open Go.RowKit
namespace Lex
theorem Np {c:UInt8} (h:c=92\/c=39):q1 c= [92] ++ [c]:=by
 rcases h with rfl | rfl<;> decide
theorem ZN {c:UInt8} (h1:c≠92) (h2:c≠39) (h3:odd c=false):q1 c= [c]:=by
 unfold q1;have n10:c≠10:=by rintro rfl;exact absurd h3 (by decide)
 have n13:c≠13:=by rintro rfl;exact absurd h3 (by decide)
 have n9:c≠9:=by rintro rfl;exact absurd h3 (by decide)
 rw [ab6 n10,ab6 n13,ab6 n9,ab6 (by rw [h3];decide),ab6 (fun h=>h.elim h2 h1)]
theorem RG {c:UInt8} (h1:c≠10) (h2:c≠13) (h3:c≠9) (h:odd c=true):q1 c= [92,120] ++ [Num.eX (c.toNat / 16)] ++ [Num.eX (c.toNat % 16)]:=by
 unfold q1;rw [ab6 h1,ab6 h2,ab6 h3,ab7 h];rfl
end Lex
theorem ahJ: ∀c:Fin 256,bits BinOp.and IntKind.u8 ((UInt8.ofNat c.val).toNat:Int) 15=(((UInt8.ofNat c.val).toNat % 16:Nat):Int):=by decide+kernel
theorem acp (c:UInt8):bits BinOp.and IntKind.u8 (c.toNat:Int) 15=((c.toNat % 16:Nat):Int):=by
 have:=ahJ ⟨c.toNat,aeE c⟩;simp only [akE] at this;exact this
theorem ahK: ∀d:Fin 16,(({data:= #[48,49,50,51,52,53,54,55,56,57,97,98,99,100,101,102]}:ByteArray).data.toList)[d.val]?=some (Num.eX d.val):=by decide+kernel
theorem Gu (d:Nat) (h:d<16) (h':d<({data:= #[48,49,50,51,52,53,54,55,56,57,97,98,99,100,101,102]}:ByteArray).size):({data:= #[48,49,50,51,52,53,54,55,56,57,97,98,99,100,101,102]}:ByteArray)[d]'h'=Num.eX d:=by
 have e:=ahK ⟨d,h⟩
 have e2:=aga (s:={data:= #[48,49,50,51,52,53,54,55,56,57,97,98,99,100,101,102]}) h'
 rw [e2] at e;exact acE e
structure Nq (s:ByteArray) (w:World) (k:Nat) (acc:List UInt8) (wx:World):Prop where
 text:acc=39 ::(s.data.toList.take k).flatMap Lex.q1
 len:acc.length<=4*k+1
 bel:Below w.heap.size w wx
 qX:gQ w.heap.size w.heap.size acc wx
theorem Nq.next {s:ByteArray} {w:World} {k:Nat} {acc acc':List UInt8} {wx wy:World} (h:Nq s w k acc wx) (hk:k<s.size) (ha:acc'=acc ++ Lex.q1 (s[k]'hk)) (hb:Below w.heap.size wx wy) (hl:gQ w.heap.size w.heap.size acc' wy):Nq s w (k+1) acc' wy:=by
 have h1:k<s.data.toList.length:=by rw [<-Lib.size_eq];exact hk
 have hq:=(Lex.L6 (s[k]'hk)).2;have hlen:=h.len
 refine ⟨?_,by rw [ha,dA];omega,h.bel.trans hb,hl⟩
 rw [ha,h.text,aer h1,ad4];simp only [adV,adz,amo,acK];rfl
theorem ahL (s:ByteArray) (w:World) (hs:s.size<=67108864):
  Calls Tryz.prog 73 #[.string s] w fun e w'=>e= .returned (.string ⟨(Lex.quote s.data.toList).toArray⟩)/\Below w.heap.size w w':=by
 go_enter Tryz.func73,Tryz.ntmps73;go_wp2_with fail
 refine (rO w.heap.size w.heap.size [] 39 _ (gQ.fresh w) (by omega) (by omega) (by simp) (by simp)).mono ?_
 rintro e w1 ⟨rfl,acr,eH,-⟩
 have hB1:=ah (show Below w.heap.size w w1 from ((Below.refl _ w).alloc (ab1 _) _).trans eH)
 have hL1:=ah acr;clear eH acr;go_wp2_with fail
 go_loopg [9] s.size (fun g x wx=> ∃(k:Nat) (acc:List UInt8),k+g=s.size/\x= .int .i64 k/\Nq s w k acc wx)
 case atStart=>exact ⟨0, [39],by omega,rfl,⟨by simp,by simp,hB1.out,hL1.out⟩⟩
 obtain ⟨k,acc,hk,rfl,hrel⟩:=hrel;have hlen:=hrel.len;have hsz:=hrel.bel.size
 have HQ:=ah hrel;clear hrel;cases gk with
 | zero=>
  obtain rfl:k=s.size:=by omega
  have ht:acc ++ [39]=Lex.quote s.data.toList:=by
   rw [HQ.out.text,acg (by rw [<-Lib.size_eq];omega)]
   rfl
  have HT:=ah ht;clear ht;go_wp2_with fail
  refine (rO w.heap.size w.heap.size acc 39 _ HQ.out.qX (by omega) (by omega) (by omega) hsz).mono ?_
  rintro e w2 ⟨rfl,fC,bT,-⟩;have hsz2:=bT.size;have HB2:=ah (HQ.out.bel.trans bT)
  go_wp2_with fail;refine (Qz w.heap.size w.heap.size _ w2 fC (by omega)).mono ?_
  rintro e w3 ⟨rfl,uI,pW,-⟩;go_wp2;go_ret;exact ⟨by rw [<-HT.out];rfl,HB2.out.trans pW⟩
 | succ g=>
  have hlt:k<s.size:=by omega
  have zK:(k:Int)<s.size:=by omega
  have t1:decide (k<s.size)=true:=abW hlt
  have hnext:=fun (acc':List UInt8) (wy:World) (ha:acc'=acc ++ Lex.q1 (s[k]'hlt)) (hb:Below w.heap.size wr wy) (hl:gQ w.heap.size w.heap.size acc' wy)=>HQ.out.next hlt ha hb hl
  have HN:=ah hnext;have acs:=HQ.out.qX;have pG:=ah acs;have oN:=ah hk
  have hk4:k<=67108864:=by omega
  obtain ⟨c,hc⟩: ∃c,s[k]'hlt=c:=⟨_,rfl⟩;rw [hc] at HN;clear acs hnext HQ hk hs
  by_cases h10:c=10
  ·subst h10
   go_wp2_with fail
   refine (xB w.heap.size w.heap.size acc _ _ pG.out (by decide) (by omega) hsz).mono ?_
   rintro e w2 ⟨rfl,fC,bT,-⟩;have HR:=ah (HN.out _ _ rfl bT fC);clear fC bT;go_wp2
   go_roundg g
   case measure=>omega
   exact ⟨k+1,_,by have:=oN.out;omega,int_eq' (by omega),HR.out⟩
  by_cases h13:c=13
  ·subst h13
   go_wp2_with fail
   refine (xB w.heap.size w.heap.size acc _ _ pG.out (by decide) (by omega) hsz).mono ?_
   rintro e w2 ⟨rfl,fC,bT,-⟩;have HR:=ah (HN.out _ _ rfl bT fC);clear fC bT;go_wp2
   go_roundg g
   case measure=>omega
   exact ⟨k+1,_,by have:=oN.out;omega,int_eq' (by omega),HR.out⟩
  by_cases h9:c=9
  ·subst h9
   go_wp2_with fail
   refine (xB w.heap.size w.heap.size acc _ _ pG.out (by decide) (by omega) hsz).mono ?_
   rintro e w2 ⟨rfl,fC,bT,-⟩;have HR:=ah (HN.out _ _ rfl bT fC);clear fC bT;go_wp2
   go_roundg g
   case measure=>omega
   exact ⟨k+1,_,by have:=oN.out;omega,int_eq' (by omega),HR.out⟩
  by_cases dX:c=92
  ·subst dX
   go_wp2_with fail
   refine (rO w.heap.size w.heap.size acc 92 _ pG.out (by omega) (by omega) (by omega) hsz).mono ?_
   rintro e w2 ⟨rfl,fC,bT,-⟩;have hsz2:=ab5 hsz bT.size
   have hl2:(acc ++ [(Int.toNat 92).toUInt8]).length<1073741824:=by rw [dA,adX];omega
   have HB2:=ah bT;have HL2:=ah fC;clear bT fC;go_wp2_with fail
   refine (rO w.heap.size w.heap.size _ 92 _ HL2.out (by omega) (by omega) hl2 hsz2).mono ?_
   rintro e w3 ⟨rfl,uI,pW,-⟩
   have HR:=ah (HN.out _ _ (by rw [Lex.Np (by decide),acF];rfl) (HB2.out.trans pW) uI)
   clear uI pW hl2;go_wp2
   go_roundg g
   case measure=>omega
   exact ⟨k+1,_,by have:=oN.out;omega,int_eq' (by omega),HR.out⟩
  by_cases dB:c=39
  ·subst dB
   go_wp2_with fail
   refine (rO w.heap.size w.heap.size acc 92 _ pG.out (by omega) (by omega) (by omega) hsz).mono ?_
   rintro e w2 ⟨rfl,fC,bT,-⟩;have hsz2:=ab5 hsz bT.size
   have hl2:(acc ++ [(Int.toNat 92).toUInt8]).length<1073741824:=by rw [dA,adX];omega
   have HB2:=ah bT;have HL2:=ah fC;clear bT fC;go_wp2_with fail
   refine (rO w.heap.size w.heap.size _ 39 _ HL2.out (by omega) (by omega) hl2 hsz2).mono ?_
   rintro e w3 ⟨rfl,uI,pW,-⟩
   have HR:=ah (HN.out _ _ (by rw [Lex.Np (by decide),acF];rfl) (HB2.out.trans pW) uI)
   clear uI pW hl2;go_wp2
   go_roundg g
   case measure=>omega
   exact ⟨k+1,_,by have:=oN.out;omega,int_eq' (by omega),HR.out⟩
  have t10:(((c.toNat:Nat):Int) == 10)=false:=bq (k:=10) rfl (ab3.2 h10)
  have t13:(((c.toNat:Nat):Int) == 13)=false:=bq (k:=13) rfl (ab3.2 h13)
  have t9:(((c.toNat:Nat):Int) == 9)=false:=bq (k:=9) rfl (ab3.2 h9)
  have zL:(((c.toNat:Nat):Int) == 92)=false:=bq (k:=92) rfl (ab3.2 dX)
  have t39:(((c.toNat:Nat):Int) == 39)=false:=bq (k:=39) rfl (ab3.2 dB)
  have hcb:=byte_le c;have hu:=lD;by_cases h32:c.toNat<32
  ·have ho:Lex.odd c=true:=by simp only [Lex.odd];rw [abW h32];rfl
   have HO:=ah (Lex.RG h10 h13 h9 ho)
   have d1:decide (32<=(c.toNat:Int))=false:=abX (by omega)
   have hq1:c.toNat / 16<16:=by have:=aeE c;omega
   have hq2:c.toNat % 16<16:=by omega
   have i1:((c.toNat:Int) / 16)<16:=by omega
   have i2:((c.toNat:Int) % 16)<16:=by omega
   have hand:bits BinOp.and IntKind.u8 (c.toNat:Int) 15=((c.toNat % 16:Nat):Int):=acp c
   have hd1:=fun h=>Gu (c.toNat / 16) hq1 h
   have hd2:=fun h=>Gu (c.toNat % 16) hq2 h
   obtain ⟨x1,hx1⟩: ∃x,Num.eX (c.toNat / 16)=x:=⟨_,rfl⟩
   obtain ⟨x2,hx2⟩: ∃x,Num.eX (c.toNat % 16)=x:=⟨_,rfl⟩;rw [hx1,hx2] at HO;rw [hx1] at hd1
   rw [hx2] at hd2;clear hx1 hx2 h10 h13 h9 dX dB ho;have hb1:=byte_le x1
   have hb2:=byte_le x2;go_wp2_with fail
   refine (xB w.heap.size w.heap.size acc _ _ pG.out (by decide) (by omega) hsz).mono ?_
   rintro e w2 ⟨rfl,fC,bT,-⟩;have hsz2:=ab5 hsz bT.size;have HB2:=ah bT;have HL2:=ah fC
   clear bT fC;go_wp2_with fail
   refine (rO w.heap.size w.heap.size _ (x1.toNat:Int) _ HL2.out (by omega) (by omega) (by rw [dA];show acc.length+2<_;omega) hsz2).mono ?_
   rintro e w3 ⟨rfl,uI,pW,-⟩;have hsz3:=ab5 hsz2 pW.size;have HB3:=ah (HB2.out.trans pW)
   have nT:=ah uI;clear pW uI HL2 HB2;go_wp2_with fail
   refine (rO w.heap.size w.heap.size _ (x2.toNat:Int) _ nT.out (by omega) (by omega) (by rw [dA,dA];show acc.length+2+1<_;omega) hsz3).mono ?_
   rintro e w4 ⟨rfl,JG,JH,-⟩
   have HR:=ah (HN.out _ _ (by rw [HO.out,byte_back,byte_back,<-acF,<-acF]) (HB3.out.trans JH) JG)
   clear JG JH;go_wp2
   go_roundg g
   case measure=>omega
   exact ⟨k+1,_,by have:=oN.out;omega,int_eq' (by omega),HR.out⟩
  by_cases acu:126<c.toNat
  ·have ho:Lex.odd c=true:=by simp only [Lex.odd];rw [abW acu,Bool.or_true]
   have HO:=ah (Lex.RG h10 h13 h9 ho)
   have d1:decide (32<=(c.toNat:Int))=true:=abW (by omega)
   have d2:decide ((c.toNat:Int)<=126)=false:=abX (by omega)
   have hq1:c.toNat / 16<16:=by have:=aeE c;omega
   have hq2:c.toNat % 16<16:=by omega
   have i1:((c.toNat:Int) / 16)<16:=by omega
   have i2:((c.toNat:Int) % 16)<16:=by omega
   have hand:bits BinOp.and IntKind.u8 (c.toNat:Int) 15=((c.toNat % 16:Nat):Int):=acp c
   have hd1:=fun h=>Gu (c.toNat / 16) hq1 h
   have hd2:=fun h=>Gu (c.toNat % 16) hq2 h
   obtain ⟨x1,hx1⟩: ∃x,Num.eX (c.toNat / 16)=x:=⟨_,rfl⟩
   obtain ⟨x2,hx2⟩: ∃x,Num.eX (c.toNat % 16)=x:=⟨_,rfl⟩;rw [hx1,hx2] at HO;rw [hx1] at hd1
   rw [hx2] at hd2;clear hx1 hx2 h10 h13 h9 dX dB ho;have hb1:=byte_le x1
   have hb2:=byte_le x2;go_wp2_with fail
   refine (xB w.heap.size w.heap.size acc _ _ pG.out (by decide) (by omega) hsz).mono ?_
   rintro e w2 ⟨rfl,fC,bT,-⟩;have hsz2:=ab5 hsz bT.size;have HB2:=ah bT;have HL2:=ah fC
   clear bT fC;go_wp2_with fail
   refine (rO w.heap.size w.heap.size _ (x1.toNat:Int) _ HL2.out (by omega) (by omega) (by rw [dA];show acc.length+2<_;omega) hsz2).mono ?_
   rintro e w3 ⟨rfl,uI,pW,-⟩;have hsz3:=ab5 hsz2 pW.size;have HB3:=ah (HB2.out.trans pW)
   have nT:=ah uI;clear pW uI HL2 HB2;go_wp2_with fail
   refine (rO w.heap.size w.heap.size _ (x2.toNat:Int) _ nT.out (by omega) (by omega) (by rw [dA,dA];show acc.length+2+1<_;omega) hsz3).mono ?_
   rintro e w4 ⟨rfl,JG,JH,-⟩
   have HR:=ah (HN.out _ _ (by rw [HO.out,byte_back,byte_back,<-acF,<-acF]) (HB3.out.trans JH) JG)
   clear JG JH;go_wp2
   go_roundg g
   case measure=>omega
   exact ⟨k+1,_,by have:=oN.out;omega,int_eq' (by omega),HR.out⟩
  have ho:Lex.odd c=false:=by simp only [Lex.odd];rw [abX h32,abX acu];rfl
  have HO:=ah (Lex.ZN dX dB ho);have d1:decide (32<=(c.toNat:Int))=true:=abW (by omega)
  have d2:decide ((c.toNat:Int)<=126)=true:=abW (by omega)
  clear h10 h13 h9 dX dB ho;go_wp2_with fail
  refine (rO w.heap.size w.heap.size acc (c.toNat:Int) _ pG.out (by omega) (by omega) (by omega) hsz).mono ?_
  rintro e w2 ⟨rfl,fC,bT,-⟩;have HR:=ah (HN.out _ _ (by rw [HO.out,byte_back]) bT fC)
  clear fC bT;go_wp2
  go_roundg g
  case measure=>omega
  exact ⟨k+1,_,by have:=oN.out;omega,int_eq' (by omega),HR.out⟩
end Go.Proofs.YtoofbflplhbpbaaGreatDoor
namespace Go.Proofs.YtoofbflplhbpbaaGreatDoor
open Go.RowKit
theorem ZO: ∀(l:List Lex.Tok) (i:Nat) (t:Lex.Tok) (j:Nat),j<4->l[i]?=some t->(oD l)[i*4+j]?=(Bz t)[j]?
 | [],i,t,j,hj,h=>by simp at h
 | u :: r,0,t,j,hj,h=>by
  simp at h;subst h;rw [oD,adz,aky (by simp [Bz];omega)]
  simp
 | u :: r,i+1,t,j,hj,h=>by
  rw [acB] at h;have ih:=ZO r i t j hj h;rw [oD,adz,aei (by simp [Bz];omega),<-oD]
  rw [show (i+1)*4+j -(Bz u).length=i*4+j by simp [Bz];omega]
  exact ih
end Go.Proofs.YtoofbflplhbpbaaGreatDoor
