/- Contracts and plain laws,part 19. -/
import Derived.Test.YtanlehkalkafdaaGreatDoorUT18
import Derived.RegionIn
import Derived.Below
import Derived.Sort.Grow
import Derived.StillTail
set_option linter.all false
namespace Go.Proofs.YtanlehkalkafdaaGreatDoor.Cy
open Go
structure TokOk (t:Lex.Tok):Prop where
 num:Cel.In64 t.num
 len:t.text.length<=16777216
 kind:t.kind<=5
 word:t.kind=1->t.text≠ []
theorem parseInt_in (l:L):Cel.In64 (Num.parseInt l).1:=by
 by_cases h:Num.isInt l=true
 ·obtain ⟨neg,r,rfl,hg⟩:=(Num.isInt_good l).1 h
  rw [Num.parseInt_form hg]
  split
  ·exact ⟨by simp,by simp⟩
  rename_i ho;unfold Num.over at ho;unfold Num.sgnd;cases neg
  ·simp at ho⊢
   constructor<;> omega
  simp at ho⊢
  constructor<;> omega
 have h':Num.isInt l=false:=by cases e:Num.isInt l with
  | false=>rfl
  | true=>exact absurd e h
 rw [Num.parseInt_bad h'];exact ⟨by simp,by simp⟩
theorem textR_ok: ∀(k:Nat) (r:L) (o:Nat) (b:L) {kd:Nat} {tx:L} {nm:Int} {n:Nat},Lex.textR k r o b= .tok kd tx nm n->kd=4/\nm=0/\tx.length<=b.length+r.length
 | 0,r,o,b,_,_,_,_,h=>by simp [Lex.textR] at h
 | k+1, [],o,b,_,_,_,_,h=>by simp [Lex.textR] at h
 | k+1,c :: r,o,b,kd,tx,nm,n,h=>by
  simp only [Lex.textR] at h
  split at h
  ·cases h
   exact ⟨rfl,rfl,by omega⟩
  split at h
  ·cases h
  split at h
  ·split at h
   ·cases h
   have ih:=textR_ok k _ _ _ h;simp only [kW,lF,nJ,mM] at ih⊢;exact ⟨ih.1,ih.2.1,by omega⟩
  have ih:=textR_ok k _ _ _ h;simp only [kW,lF,nJ] at ih⊢;exact ⟨ih.1,ih.2.1,by omega⟩
theorem zero_in:Cel.In64 0:=⟨by decide,by decide⟩
theorem tok1_ok {l:L} {kd:Nat} {tx:L} {nm:Int} {n:Nat} (h:Lex.tok1 l= .tok kd tx nm n):Cel.In64 nm/\tx.length<=l.length/\kd<=5/\(kd=1->tx≠ []):=by
 cases l with
 | nil=>simp [Lex.tok1] at h
 | cons c r=>
  simp only [Lex.tok1] at h
  split at h
  ·obtain ⟨rfl,rfl,h3⟩:=textR_ok _ _ _ _ h
   exact ⟨zero_in,by simp only [nJ,lF] at h3⊢;omega,by omega,by omega⟩
  split at h
  ·rename_i hc
   cases h;refine ⟨zero_in,by rw [mO];omega,by omega,fun _=> ?_⟩
   have hf:=let_fin ⟨c.toNat,pJ c⟩;simp only [pX] at hf
   rw [Lex.run_cons_pos r (hf hc).2.2.2,pF,pV];simp
  split at h
  ·unfold Lex.numTok at h
   split at h
   ·split at h
    ·cases h
     rename_i hp;exact ⟨Cel.s64_in (Num.fmt_parse hp).2.1,by simp,by omega,by omega⟩
    cases h
   split at h
   ·cases h
    exact ⟨parseInt_in _,by simp,by omega,by omega⟩
   cases h
  split at h
  ·cases h
   rename_i hc
   exact ⟨zero_in,by cases r with
    | nil=>simp at hc
    | cons=>simp,by omega,by omega⟩
  split at h
  ·cases h
   exact ⟨zero_in,by simp,by omega,by omega⟩
  cases h
theorem scan_ok: ∀(k:Nat) (l:L) (i:Nat),l.length<=16777216-> ∀t∈(Lex.scan k l i).1,TokOk t
 | 0,l,i,_,t,h=>by simp [Lex.scan] at h
 | k+1, [],i,_,t,h=>by simp [Lex.scan] at h
 | k+1,c :: r,i,hl,t,h=>by
  cases ht:Lex.tok1 (c :: r) with
  | err o e=>rw [Lex.scan_err (by simp) ht] at h;cases h
  | tok kd tx nm n=>
   rw [Lex.scan_tok ht rfl] at h
   rcases mX.1 h with rfl | h
   ·have:=tok1_ok ht
    exact ⟨this.1,by show tx.length<=_;omega,this.2.2.1,this.2.2.2⟩
   exact scan_ok k _ _ (by rw [mM];omega) t h
theorem read_ok (s:L): ∀t∈(Lex.read s).1,TokOk t:=by
 unfold Lex.read
 split
 ·intro t h;cases h
 unfold Lex.body;exact scan_ok _ _ _ (by rw [mM];omega)
theorem scan_count: ∀(k:Nat) (l:L) (i:Nat),(Lex.scan k l i).1.length<=l.length
 | 0,l,i=>by simp [Lex.scan]
 | k+1, [],i=>by simp [Lex.scan]
 | k+1,c :: r,i=>by
  cases ht:Lex.tok1 (c :: r) with
  | err o e=>rw [Lex.scan_err (by simp) ht];simp
  | tok kd tx nm n=>
   obtain ⟨t1,t2⟩:=Lex.tok1_len ht
   have ih:=scan_count k ((c :: r).drop (n+Lex.gap false ((c :: r).drop n))) (i+n+Lex.gap false ((c :: r).drop n))
   rw [Lex.scan_tok ht rfl,lF];rw [mM] at ih;omega
theorem toks_len (s:L):(Lex.read s).1.length<=16777216:=by
 unfold Lex.read
 split
 ·simp
 have:=scan_count (s.length+1) (s.drop (Lex.gap false s)) (0+Lex.gap false s)
 unfold Lex.body;rw [mM] at this;omega
theorem scan_err_ne: ∀(k:Nat) (l:L) (i:Nat) {p e:Nat},(Lex.scan k l i).2=some (p,e)->e≠0
 | 0,l,i,p,e,h=>by simp [Lex.scan] at h
 | k+1, [],i,p,e,h=>by simp [Lex.scan] at h
 | k+1,c :: r,i,p,e,h=>by
  cases ht:Lex.tok1 (c :: r) with
  | err o e'=>
   rw [Lex.scan_err (by simp) ht] at h
   have:=(Lex.tok1_err (by simp) ht).1
   cases h;exact this
  | tok kd tx nm n=>
   rw [Lex.scan_tok ht rfl] at h;exact scan_err_ne k _ _ h
theorem Lex_err {s:L} {p e:Nat} (h:(Lex.read s).2=some (p,e)):e≠0:=by
 unfold Lex.read at h
 split at h
 ·cases h;decide
 exact scan_err_ne _ _ _ h
def Tail (r l:T):Prop:= ∃p,l=p ++ r
theorem Tail.refl (l:T):Tail l l:=⟨[],rfl⟩
theorem Tail.trans {a b c:T} (h:Tail a b) (k:Tail b c):Tail a c:=by
 obtain ⟨p,rfl⟩:=h;obtain ⟨q,rfl⟩:=k;exact ⟨q ++ p,by rw [lX]⟩
theorem Tail.ok {r l:T} (h:Tail r l) (ok: ∀t∈l,TokOk t): ∀t∈r,TokOk t:=by
 obtain ⟨p,rfl⟩:=h;exact fun t ht=>ok t (qU _ ht)
theorem Tail.len {r l:T} (h:Tail r l):r.length<=l.length:=by
 obtain ⟨p,rfl⟩:=h;rw [kW];omega
theorem Tail.drop {r l:T} (h:Tail r l):r=l.drop (l.length - r.length):=by
 obtain ⟨p,rfl⟩:=h;rw [kW,qP,pK]
theorem mark_tail {m:L} {l r:T} (h:mark m l=some r):Tail r l/\r.length+1=l.length:=by
 cases l with
 | nil=>simp [mark] at h
 | cons t r'=>
  rw [mark] at h
  split at h
  ·cases h
   exact ⟨⟨[t],rfl⟩,rfl⟩
  cases h
theorem word_tail {w:L} {l r:T} (h:wordP l=some (w,r)) (ok: ∀t∈l,TokOk t):Tail r l/\w.length<=16777216/\r.length+1=l.length/\w≠ []:=by
 cases l with
 | nil=>simp [wordP] at h
 | cons t r'=>
  rw [wordP] at h
  split at h
  ·rename_i hk
   cases h;exact ⟨⟨[t],rfl⟩,(ok t (by simp)).len,rfl,(ok t (by simp)).word hk⟩
  cases h
theorem scalar_tail {k n:Int} {t:L} {l r:T} (h:scalarP l=some ((k,n,t),r)) (ok: ∀t∈l,TokOk t):Tail r l/\1<=k/\k<=4/\Cel.In64 n/\t.length<=16777216/\r.length+1=l.length:=by
 cases l with
 | nil=>simp [scalarP] at h
 | cons u r'=>
  have hu:=ok u (by simp)
  rw [scalarP] at h;have hi0:Cel.In64 0:=zero_in
  have hi1:Cel.In64 1:=⟨by decide,by decide⟩
  repeat' split at h
  all_goals first
   |(cases h;done)
   |(cases h;exact ⟨⟨[u],rfl⟩,by omega,by omega,by first | assumption | exact hu.num,by first | exact hu.len | simp,rfl⟩)
structure VSz (v:Cel.V):Prop where
 kin:1<=v.kind/\v.kind<=8
 num:Cel.In64 v.num
 nums: ∀n∈v.nums,Cel.In64 n
 tl:v.text.length<=16777216
 nl:v.nums.length<=16777216
 sl:v.texts.length<=16777216
 sz: ∀t∈v.texts,t.length<=16777216
theorem elems_tail {k:Int}: ∀(f:Nat) (l:T) (ns:List Int) (ts:List L) {x:List Int×List L} {r:T},elems k f l ns ts=some (x,r)->(∀t∈l,TokOk t)->(∀n∈ns,Cel.In64 n)->(∀t∈ts,t.length<=16777216)->
  Tail r l/\(∀n∈x.1,Cel.In64 n)/\(∀t∈x.2,t.length<=16777216)/\x.1.length+r.length<=ns.length+l.length/\x.2.length+r.length<=ts.length+l.length
 | 0,l,ns,ts,x,r,h,_,_,_=>by simp [elems] at h
 | f+1,l,ns,ts,x,r,h,ok,hn,ht=>by
  rw [elems] at h
  split at h
  ·cases h
  rename_i j n t r1 hs;obtain ⟨t1,-,-,q3,q4,e1⟩:=scalar_tail hs ok
  have hn': ∀m∈(if k=4 then ns else ns ++ [n]),Cel.In64 m:=fun m hm=>by
   split at hm
   ·exact hn m hm
   rcases lW.1 hm with hm | hm
   ·exact hn m hm
   rw [lY.1 hm];exact q3
  have ht': ∀m∈(if k=4 then ts ++ [t] else ts),m.length<=16777216:=fun m hm=>by
   split at hm
   ·rcases lW.1 hm with hm | hm
    ·exact ht m hm
    rw [lY.1 hm];exact q4
   exact ht m hm
  have hnl:(if k=4 then ns else ns ++ [n]).length<=ns.length+1:=by split<;> simp
  have htl:(if k=4 then ts ++ [t] else ts).length<=ts.length+1:=by split<;> simp
  split at h
  ·cases h
  split at h
  ·rename_i r' hm
   obtain ⟨t2,e2⟩:=mark_tail hm;cases h
   exact ⟨t2.trans t1,hn',ht',by show (if k=4 then ns else ns ++ [n]).length+_<=_;omega,by show (if k=4 then ts ++ [t] else ts).length+_<=_;omega⟩
  split at h
  ·cases h
  rename_i r' hm;obtain ⟨t2,e2⟩:=mark_tail hm
  obtain ⟨t3,q5,q6,q7,q8⟩:=elems_tail f _ _ _ h ((t2.trans t1).ok ok) hn' ht'
  exact ⟨t3.trans (t2.trans t1),q5,q6,by omega,by omega⟩
theorem kindOf_range {w:L} (h:kindOf w≠0):1<=kindOf w/\kindOf w<=4:=by
 unfold kindOf at h⊢
 repeat' split
 all_goals first | omega |(exfalso;apply h;simp_all)
theorem lit_tail {v:Cel.V} {l r:T} (h:litP l=some (v,r)) (ok: ∀t∈l,TokOk t) (hl:l.length<=16777216):Tail r l/\VSz v/\r.length<l.length:=by
 unfold litP at h
 split at h
 ·cases hs:scalarP l with
  | none=>rw [hs] at h;cases h
  | some x=>
   obtain ⟨⟨k,n,t⟩,r1⟩:=x;rw [hs] at h;cases h
   obtain ⟨t1,k1,k2,q3,q4,e1⟩:=scalar_tail hs ok
   refine ⟨t1,⟨⟨k1,by show k<=8;omega⟩,q3,by simp,q4,by simp,by simp,by simp⟩, ?_⟩
   show r1.length<_
   omega
 rename_i r1 h1;obtain ⟨t1,e1⟩:=mark_tail h1
 split at h
 ·cases h
 rename_i r2 h2;obtain ⟨t2,e2⟩:=mark_tail h2
 split at h
 ·cases h
 rename_i w r3 h3;obtain ⟨t3,-,e3,-⟩:=word_tail h3 ((t2.trans t1).ok ok)
 have t123:=t3.trans (t2.trans t1)
 split at h
 ·cases h
 rename_i hk;have hkr:=kindOf_range hk
 split at h
 ·rename_i r4 h4
  obtain ⟨t4,e4⟩:=mark_tail h4;cases h
  exact ⟨t4.trans t123,⟨⟨by show 1<=kindOf w+4;omega,by show kindOf w+4<=8;omega⟩,zero_in,by simp,by simp,by simp,by simp,by simp⟩,by omega⟩
 cases hs:elems (kindOf w) (r3.length+1) r3 [] [] with
 | none=>rw [hs] at h;cases h
 | some x=>
  obtain ⟨⟨a,b⟩,r5⟩:=x;rw [hs] at h;cases h
  obtain ⟨t5,q1,q2,q3,q4⟩:=elems_tail _ _ _ _ hs (t123.ok ok) (by simp) (by simp)
  simp only [nJ] at q3 q4
  refine ⟨t5.trans t123,⟨⟨by show 1<=kindOf w+4;omega,by show kindOf w+4<=8;omega⟩,zero_in,q1,by simp, ?_, ?_,q2⟩, ?_⟩
  ·show a.length<=_;omega
  ·show b.length<=_;omega
  have:=t5.len
  show r5.length<_
  omega
structure PSz (p:Gr.P):Prop where
 key:p.key.length<=16777216
 val:VSz p.val
theorem propsGo_tail: ∀(f:Nat) (l:T) (acc:List Gr.P) {ps:List Gr.P} {r:T},propsGo f l acc=some (ps,r)->(∀t∈l,TokOk t)->l.length<=16777216->(∀p∈acc,PSz p)->
  Tail r l/\(∀p∈ps,PSz p)/\ps.length+r.length<=acc.length+l.length
 | 0,l,acc,ps,r,h,_,_,_=>by simp [propsGo] at h
 | f+1,l,acc,ps,r,h,ok,hl,hp=>by
  rw [propsGo] at h
  split at h
  ·cases h
  rename_i k r1 h1;obtain ⟨t1,w1,e1,-⟩:=word_tail h1 ok
  split at h
  ·cases h
  rename_i r2 h2;obtain ⟨t2,e2⟩:=mark_tail h2;have t12:=t2.trans t1
  split at h
  ·cases h
  rename_i v r3 h3;obtain ⟨t3,v3,e3⟩:=lit_tail h3 (t12.ok ok) (by omega)
  have t123:=t3.trans t12
  have hp': ∀p∈acc ++ [⟨k,v⟩],PSz p:=fun p hm=>by
   rcases lW.1 hm with hm | hm
   ·exact hp p hm
   rw [lY.1 hm];exact ⟨w1,v3⟩
  split at h
  ·rename_i r4 h4
   obtain ⟨t4,e4⟩:=mark_tail h4;cases h;exact ⟨t4.trans t123,hp',by rw [kW,nC];omega⟩
  split at h
  ·cases h
  rename_i r4 h4;obtain ⟨t4,e4⟩:=mark_tail h4
  obtain ⟨t5,q1,q2⟩:=propsGo_tail f _ _ h ((t4.trans t123).ok ok) (by omega) hp'
  rw [kW,nC] at q2;exact ⟨t5.trans (t4.trans t123),q1,by omega⟩
theorem props_tail {ps:List Gr.P} {l r:T} (h:propsP l=some (ps,r)) (ok: ∀t∈l,TokOk t) (hl:l.length<=16777216):Tail r l/\(∀p∈ps,PSz p)/\ps.length<=16777216:=by
 unfold propsP at h
 split at h
 ·cases h
  exact ⟨Tail.refl _,by simp,by simp⟩
 rename_i r1 h1;obtain ⟨t1,e1⟩:=mark_tail h1
 split at h
 ·rename_i r2 h2
  obtain ⟨t2,e2⟩:=mark_tail h2;cases h;exact ⟨t2.trans t1,by simp,by simp⟩
 obtain ⟨t2,q1,q2⟩:=propsGo_tail _ _ _ h (t1.ok ok) (by omega) (by simp)
 simp only [nJ] at q2;exact ⟨t2.trans t1,q1,by omega⟩
theorem labels_tail: ∀(f:Nat) (l:T) (acc:List L) {ls:List L} {r:T},labelsP f l acc=some (ls,r)->(∀t∈l,TokOk t)->(∀x∈acc,x.length<=16777216)->
  Tail r l/\(∀x∈ls,x.length<=16777216)/\ls.length+r.length<=acc.length+l.length
 | 0,l,acc,ls,r,h,_,_=>by simp [labelsP] at h
 | f+1,l,acc,ls,r,h,ok,hp=>by
  rw [labelsP] at h
  split at h
  ·cases h
   exact ⟨Tail.refl _,hp,by omega⟩
  rename_i r1 h1;obtain ⟨t1,e1⟩:=mark_tail h1
  split at h
  ·cases h
  rename_i w r2 h2;obtain ⟨t2,w2,e2,n2⟩:=word_tail h2 (t1.ok ok)
  obtain ⟨t3,q1,q2⟩:=labels_tail f _ _ h ((t2.trans t1).ok ok) (fun x hm=>by
   rcases lW.1 hm with hm | hm
   ·exact hp x hm
   rw [lY.1 hm];exact w2)
  rw [kW,nC] at q2;exact ⟨t3.trans (t2.trans t1),q1,by omega⟩
structure PatSz (p:Pat):Prop where
 first:p.first.length<=16777216
 word:p.word.length<=16777216
 other:p.other.length<=16777216
 nl:p.names.length<=16777216
 ns: ∀x∈p.names,x.length<=16777216
 pl:p.props.length<=16777216
 ps: ∀x∈p.props,PSz x
 one:p.rel=true-> ∃x,p.names= [x]
 rw_:p.rel=true↔p.word≠ []
theorem rel_tail {p:Pat} {fw:L} {l r:T} (h:relP fw l=some (p,r)) (hf:fw.length<=16777216) (ok: ∀t∈l,TokOk t) (hl:l.length<=16777216):Tail r l/\PatSz p/\p.rel=true/\p.first=fw:=by
 unfold relP at h
 split at h
 ·cases h
 rename_i l1 h1;obtain ⟨t1,e1⟩:=mark_tail h1
 split at h
 ·cases h
 rename_i w l2 h2;obtain ⟨t2,w2,e2,n2⟩:=word_tail h2 (t1.ok ok);have t2:=t2.trans t1
 split at h
 ·cases h
 rename_i l3 h3;obtain ⟨t3,e3⟩:=mark_tail h3;have t3:=t3.trans t2
 split at h
 ·cases h
 rename_i ty l4 h4;obtain ⟨t4,w4,e4,-⟩:=word_tail h4 (t3.ok ok);have t4:=t4.trans t3
 split at h
 ·cases h
 rename_i ps l5 h5;obtain ⟨t5,q1,q2⟩:=props_tail h5 (t4.ok ok) (by omega)
 have t5:=t5.trans t4
 split at h
 ·cases h
 rename_i l6 h6;obtain ⟨t6,e6⟩:=mark_tail h6;have t6:=t6.trans t5
 split at h
 ·cases h
 rename_i l7 h7;obtain ⟨t7,e7⟩:=mark_tail h7;have t7:=t7.trans t6
 split at h
 ·cases h
 rename_i l8 h8;obtain ⟨t8,e8⟩:=mark_tail h8;have t8:=t8.trans t7
 split at h
 ·cases h
 rename_i o l9 h9;obtain ⟨t9,w9,e9,-⟩:=word_tail h9 (t8.ok ok);have t9:=t9.trans t8
 cases hm:mark [41] l9 with
 | none=>rw [hm] at h;cases h
 | some l10=>
  rw [hm] at h;cases h;obtain ⟨t10,e10⟩:=mark_tail hm
  exact ⟨t10.trans t9,⟨hf,w2,w9,by simp,fun x hx=>by rw [lY.1 hx];exact w4,q2,q1,fun _=>⟨ty,rfl⟩,by simp [n2]⟩,rfl,rfl⟩
theorem pat_tail {p:Pat} {l r:T} (h:patP l=some (p,r)) (ok: ∀t∈l,TokOk t) (hl:l.length<=16777216):Tail r l/\PatSz p/\r.length<l.length:=by
 unfold patP at h
 split at h
 ·cases h
 rename_i l1 h1;obtain ⟨t1,e1⟩:=mark_tail h1
 split at h
 ·cases h
 rename_i w l2 h2;obtain ⟨t2,w2,e2,n2⟩:=word_tail h2 (t1.ok ok);have t2:=t2.trans t1
 split at h
 ·cases h
 rename_i ls l3 h3;obtain ⟨t3,q1,q2⟩:=labels_tail _ _ _ h3 (t2.ok ok) (by simp)
 have t3':=t3.trans t2;have:=t3.len;simp only [nJ] at q2
 split at h
 ·cases h
 rename_i ps l4 h4;obtain ⟨t4,q3,q4⟩:=props_tail h4 (t3'.ok ok) (by omega)
 have:=t4.len;have t4:=t4.trans t3'
 split at h
 ·cases h
 rename_i l5 h5;obtain ⟨t5,e5⟩:=mark_tail h5;have t5:=t5.trans t4
 have hsz:PatSz ⟨false,w, [], [],ls,ps⟩:=⟨w2,by simp,by simp,by show ls.length<=_;omega,q1,q4,q3,fun e=>absurd e (by simp),by simp⟩
 split at h
 ·cases h
  exact ⟨t5,hsz,by omega⟩
 split at h
 ·cases h
  exact ⟨t5,hsz,by omega⟩
 rename_i l6 h6;obtain ⟨t6,e6⟩:=mark_tail h6
 obtain ⟨t7,q5,-⟩:=rel_tail h w2 ((t6.trans t5).ok ok) (by omega)
 have:=t7.len;exact ⟨t7.trans (t6.trans t5),q5,by omega⟩
theorem pats_tail: ∀(f:Nat) (l:T) (acc:List Pat) {ps:List Pat} {r:T},pats f l acc=some (ps,r)->(∀t∈l,TokOk t)->l.length<=16777216->(∀p∈acc,PatSz p)->
  Tail r l/\(∀p∈ps,PatSz p)/\ps.length+r.length<=acc.length+l.length/\r.length<l.length
 | 0,l,acc,ps,r,h,_,_,_=>by simp [pats] at h
 | f+1,l,acc,ps,r,h,ok,hl,hp=>by
  rw [pats] at h
  split at h
  ·cases h
  rename_i p r1 h1;obtain ⟨t1,p1,e1⟩:=pat_tail h1 ok hl
  have hp': ∀x∈acc ++ [p],PatSz x:=fun x hm=>by
   rcases lW.1 hm with hm | hm
   ·exact hp x hm
   rw [lY.1 hm];exact p1
  split at h
  ·rename_i r2 h2
   obtain ⟨t2,e2⟩:=mark_tail h2;cases h
   exact ⟨t2.trans t1,hp',by rw [kW,nC];omega,by omega⟩
  split at h
  ·cases h
  rename_i r2 h2;obtain ⟨t2,e2⟩:=mark_tail h2
  obtain ⟨t3,q1,q2,q3⟩:=pats_tail f _ _ h ((t2.trans t1).ok ok) (by omega) hp'
  rw [kW,nC] at q2;exact ⟨t3.trans (t2.trans t1),q1,by omega,by omega⟩
theorem script_tail: ∀(f:Nat) (l:T) (acc:List Pat) {ps:List Pat},script f l acc=some ps->(∀t∈l,TokOk t)->l.length<=16777216->(∀p∈acc,PatSz p)->
  (∀p∈ps,PatSz p)/\ps.length<=acc.length+l.length
 | 0,l,acc,ps,h,_,_,_=>by simp [script] at h
 | f+1, [],acc,ps,h,_,_,hp=>by
  simp only [script,nD] at h;subst h;exact ⟨hp,by omega⟩
 | f+1,t :: l,acc,ps,h,ok,hl,hp=>by
  rw [script] at h
  split at h
  ·split at h
   ·cases h
   rename_i acc' r h1;have ok': ∀t∈l,TokOk t:=fun x hx=>ok x (mg _ hx)
   rw [lF] at hl;obtain ⟨t1,q1,q2,q3⟩:=pats_tail _ _ _ h1 ok' (by omega) hp
   obtain ⟨q4,q5⟩:=script_tail f _ _ h (t1.ok ok') (by omega) q1
   exact ⟨q4,by rw [lF];omega⟩
  cases h
theorem patterns_sz {l:T} {ps:List Pat} (h:patterns l=some ps) (ok: ∀t∈l,TokOk t) (hl:l.length<=16777216):(∀p∈ps,PatSz p)/\ps.length<=l.length:=by
 have:=script_tail _ _ _ h ok hl (by simp)
 simpa using this
structure NSz (n:Gr.N):Prop where
 lo:0<=n.id
 hi:n.id<1024
 ll:n.labels.length<=16777216
 ls: ∀l∈n.labels,l.length<=16777216
 pl:n.props.length<=16777216
 ps: ∀p∈n.props,PSz p
structure RSz (n:Gr.R):Prop where
 lo:0<=n.id
 hi:n.id<2048
 tl:n.type.length<=16777216
 src:0<=n.src/\n.src<1024
 dst:0<=n.dst/\n.dst<1024
 pl:n.props.length<=16777216
 ps: ∀p∈n.props,PSz p
structure GSz (g:Gr.G):Prop where
 ns: ∀n∈g.nodes,NSz n
 rs: ∀n∈g.rels,RSz n
 nd:(g.nodes.map Gr.N.id).Nodup
 rd:(g.rels.map Gr.R.id).Nodup
theorem idP_range {c:UInt8} {m n:Int} {w:L} (h:idP c m w=some n):0<=n/\n<m:=by
 cases w with
 | nil=>simp [idP] at h
 | cons d r=>
  simp only [idP] at h
  split at h
  ·rename_i hc
   cases h;exact hc.2.2
  cases h
theorem end_range {g:Gr.G} {w:L}:0<=(endP g w).1/\(endP g w).1<1024:=by
 unfold endP
 split
 ·exact ⟨by simp,by simp⟩
 rename_i n h;have:=idP_range h
 split
 ·exact this
 exact ⟨by simp,by simp⟩
theorem nodup_snoc {α:Type} {l:List α} {a:α} (h:l.Nodup) (ha:a∉l):(l ++ [a]).Nodup:=by
 rw [qc];exact ⟨h,by simp,fun x hx y hy e=>ha (by rw [lY.1 hy] at e;rw [<-e];exact hx)⟩
theorem add_sz {g:Gr.G} {p:Pat} (hg:GSz g) (hp:PatSz p):GSz (add g p).1:=by
 unfold add
 split
 ·rename_i hr
  unfold addRel
  split
  ·exact hg
  split
  ·exact hg
  rename_i n hn
  split
  ·exact hg
  rename_i hid
  split
  ·exact hg
  split
  ·exact hg
  have hi:=idP_range hn;refine ⟨hg.ns,fun x hx=> ?_,hg.nd, ?_⟩
  ·rcases lW.1 hx with hx | hx
   ·exact hg.rs x hx
   rw [lY.1 hx];obtain ⟨y,hy⟩:=hp.one hr
   refine ⟨hi.1,hi.2, ?_,end_range,end_range,hp.pl,hp.ps⟩
   show (p.names.headD []).length<=_
   have:=hp.ns y (by rw [hy];simp)
   rw [hy];exact this
  show ((g.rels ++ [_]).map Gr.R.id).Nodup
  rw [mV];exact nodup_snoc hg.rd hid
 unfold addNode
 split
 ·exact hg
 rename_i n hn
 split
 ·exact hg
 rename_i hid
 split
 ·exact hg
 have hi:=idP_range hn;refine ⟨fun x hx=> ?_,hg.rs, ?_,hg.rd⟩
 ·rcases lW.1 hx with hx | hx
  ·exact hg.ns x hx
  rw [lY.1 hx];exact ⟨hi.1,hi.2,hp.nl,hp.ns,hp.pl,hp.ps⟩
 show ((g.nodes ++ [_]).map Gr.N.id).Nodup
 rw [mV];exact nodup_snoc hg.nd hid
theorem G0_sz:GSz Gr.G0:=⟨by simp [Gr.G0],by simp [Gr.G0],by simp [Gr.G0],by simp [Gr.G0]⟩
theorem make_sz: ∀(ps:List Pat) (g:Gr.G),GSz g->(∀p∈ps,PatSz p)->GSz (make g ps).1
 | [],g,hg,_=>hg
 | p :: ps,g,hg,hp=>by
  rw [make]
  split
  ·exact G0_sz
  exact make_sz ps _ (add_sz hg (hp p (by simp))) (fun x hx=>hp x (mg _ hx))
theorem few {l:List Int} {m:Nat} (h: ∀x∈l,0<=x/\x<m) (hd:l.Nodup):l.length<=m:=by
 have h2:(l.map Int.toNat).Nodup:=by
  unfold List.Nodup;rw [rC]
  refine List.Pairwise.imp_of_mem (fun {a b} ha hb hab e=>hab ?_) hd
  have:=h a ha;have:=h b hb;omega
 have hs:=h2.length_le_of_subset (l₂:=List.range m) fun x hx=>by
  obtain ⟨y,hy,rfl⟩:=nR.1 hx;have:=h y hy;exact vk.2 (by omega)
 rwa [lU,List.length_range] at hs
theorem GSz.lens {g:Gr.G} (h:GSz g):g.nodes.length<=1024/\g.rels.length<=2048:=by
 constructor
 ·have:=few (m:=1024) (fun x hx=>by obtain ⟨n,hn,rfl⟩:=nR.1 hx;exact ⟨(h.ns n hn).lo,(h.ns n hn).hi⟩) h.nd
  rwa [lU] at this
 have:=few (m:=2048) (fun x hx=>by obtain ⟨n,hn,rfl⟩:=nR.1 hx;exact ⟨(h.rs n hn).lo,(h.rs n hn).hi⟩) h.rd
 rwa [lU] at this
theorem sortBy_perm {α κ:Type} (le:κ->κ->Bool) (key:α->κ) (l:List α):(Gr.sortBy le key l).Perm l:=oq _ _
theorem canon_sz {g:Gr.G} (h:GSz g):GSz (Gr.canon g):=by
 have pn:=sortBy_perm (fun a b:Int=>decide (a<=b)) Gr.N.id (g.nodes.map Gr.canonNode)
 have pr:=sortBy_perm (fun a b:Int=>decide (a<=b)) Gr.R.id (g.rels.map Gr.canonRel)
 have pp:=fun ps:List Gr.P=>sortBy_perm (fun a b:L=>decide (a<=b)) Gr.P.key ps
 refine ⟨fun n hn=> ?_,fun n hn=> ?_, ?_, ?_⟩
 ·obtain ⟨m,hm,rfl⟩:=nR.1 (pn.mem_iff.1 hn)
  have hz:=h.ns m hm;have pl:=sortBy_perm (fun a b:L=>decide (a<=b)) id m.labels
  exact ⟨hz.lo,hz.hi,kZ (wu pl.length_eq) hz.ll,fun l hl=>hz.ls l (pl.mem_iff.1 hl),
   kZ (wu (pp m.props).length_eq) hz.pl,fun p hp=>hz.ps p ((pp m.props).mem_iff.1 hp)⟩
 ·obtain ⟨m,hm,rfl⟩:=nR.1 (pr.mem_iff.1 hn)
  have hz:=h.rs m hm
  exact ⟨hz.lo,hz.hi,hz.tl,hz.src,hz.dst,kZ (wu (pp m.props).length_eq) hz.pl,fun p hp=>hz.ps p ((pp m.props).mem_iff.1 hp)⟩
 ·refine (pn.map Gr.N.id).nodup_iff.2 ?_
  rw [oQ];exact h.nd
 refine (pr.map Gr.R.id).nodup_iff.2 ?_;rw [oQ];exact h.rd
theorem parse_sz {s:L} {g:Gr.G} {e:Nat} (h:parse s=(g,e)):GSz g/\(e=0->Fine g)/\(e≠0->g=Gr.G0):=by
 have hg0:GSz Gr.G0:=G0_sz;unfold parse at h
 split at h
 ·rename_i p e' he
  cases h;exact ⟨hg0,fun e0=>absurd e0 (Lex_err he),fun _=>rfl⟩
 split at h
 ·cases h
  exact ⟨hg0,fun e0=>absurd e0 (by decide),fun _=>rfl⟩
 rename_i ps hps
 split at h
 ·rename_i hm
  cases h;exact ⟨hg0,fun e=>absurd e hm,fun _=>rfl⟩
 split at h
 ·rename_i hc
  cases h;exact ⟨hg0,fun e=>absurd e hc,fun _=>rfl⟩
 rename_i hc;cases h
 have hsz:=canon_sz (make_sz ps Gr.G0 hg0 (patterns_sz hps (read_ok s) (toks_len s)).1)
 refine ⟨hsz,fun _=>⟨Gr.check_good.1 (Decidable.not_not.1 hc),fun p hp=> ?_⟩,fun e=>absurd rfl e⟩
 unfold Gr.allProps at hp
 have hv:VSz p.val:=by
  rcases lW.1 hp with hp | hp
  ·obtain ⟨n,hn,hq⟩:=nM.1 hp
   exact ((hsz.ns n hn).ps p hq).val
  obtain ⟨n,hn,hq⟩:=nM.1 hp;exact ((hsz.rs n hn).ps p hq).val
 exact ⟨hv.num,hv.nums⟩
end Go.Proofs.YtanlehkalkafdaaGreatDoor.Cy
namespace Go.Proofs.YtanlehkalkafdaaGreatDoor
open Go.RowKit
theorem KeepT.of_below {T:TypeId} {A B:World} (h:Below A.heap.size A B):KeepT T A B:=
 ⟨h.size,fun k c fz hk=>(h.block k (lV.1 hk).1).trans hk⟩
theorem wp_iter_a {α:Type} {P:Program} (T:TypeId) {g:Operand} {ps:Array Tmp} {assign body:Code} {Q:Exit->Act->World->Prop} {a:Act} {w:World}
  {gf:Nat} {lb:Array Value} (hg:a.eval g= .func (.func gf) #[] lb) (eg: ∀args w,(callFunc gf args).run P w= .ok (.enter gf args) w)
  {encs:α->Array Value} (hps: ∀x,(encs x).size=ps.size) {Pre:α->World->World->Prop} {Step:List α->α->Prop} {End:List α->Prop} {Aux:World->Prop}
  (a₁:α->World->Act) (w₁:α->World->World) (hw₁: ∀x W,Below W.heap.size W (w₁ x W))
  (hPre: ∀x W0 W l r r',Pre x W0 W->(w₁ x W).heap[l]?=some (.loop r)->Pre x W0 ((w₁ x W).putObj l (.loop r')))
  (hiter: ∀W1,Below w.heap.size w W1->w.heap.size<=W1.heap.size->IterOK P T w.heap.size gf lb encs Pre Step End Aux W1)
  (I:List α->World->Prop) (Ix:Code->World->Prop) (hI: ∀pre A B,I pre A->Same1 T w.heap.size A B->I pre B) (hIx: ∀c A B,Ix c A->Same1 T w.heap.size A B->Ix c B) (hAux: ∀pre W,I pre W->Aux W) (h0:I [] w)
  (hassign: ∀(l:Nat) (x:α) (W:World) (K:Act->World->Prop),K (a₁ x W) (w₁ x W)->
   assign.wpIn (Fence.wide.inRound l) 7 P (Exit.then K (fun _ _ _=>False)) {tmps:=(ps.zip (encs x)).foldl (fun t (p,v)=>t.setIfInBounds p v) a.tmps,defers:= []} W)
  (hbody: ∀(l:Nat) (pre:List α) (x:α) (W0 Wa W:World),I pre W0->Same1 T w.heap.size W0 Wa->Same1 T w.heap.size Wa W->(∀(b:Nat) (t:TypeId) (c:Array Value),Blk (w₁ x Wa) b t c->Blk W b t c)->W.heap.size=(w₁ x Wa).heap.size->Pre x W0 W->Step pre x->w.heap.size<=l->w.heap.size<=W0.heap.size->
   body.wpIn (Fence.wide.inRound l) 7 P (iterPost w.heap.size T I Ix (pre ++ [x]) W) (a₁ x Wa) W)
  (hdone: ∀(D:Nat) (xs:List α) (W:World),w.heap.size<=D->End xs->I xs W->W.heap[D]?=some (.deferred (some []))->Q .normal {a with defers:={target:= .collected D,args:= #[]} :: a.defers} W)
  (hstop: ∀(D:Nat) (c:Code) (W:World),w.heap.size<=D->Ix c W->W.heap[D]?=some (.deferred (some []))->c.wpIn Fence.wide 9 P Q {a with defers:={target:= .collected D,args:= #[]} :: a.defers} W):
  (Code.rangeFunc g ps assign body).wpIn Fence.wide 9 P Q a w:=by
 refine wpIn_rangeFunc ?_;intro fn hfn;have hro:Fence.wide.round=none:=rfl;rw [hro]
 obtain ⟨rec,hrec⟩: ∃rec:LoopState->Option Code->Loop,rec=fun st pe=>{state:=st,pending:=pe,fn,tmps:=a.tmps,params:=ps,assign,body,defers:=w.heap.size}:=⟨_,rfl⟩
 obtain ⟨W1,hW1⟩:=aj ((w.alloc (.deferred (some []))).alloc (.loop (rec .ready none)))
 have hL1:W1.heap[w.heap.size+1]?=some (.loop (rec .ready none)):=by
  rw [<-hW1];have:=World.alloc_heap_new (w.alloc (.deferred (some []))) (.loop (rec .ready none));rwa [World.size_alloc] at this
 have hK1:W1.heap[w.heap.size]?=some (.deferred (some [])):=by
  rw [<-hW1];exact (Below.heap_alloc _ _ _ (by simp)).trans (World.alloc_heap_new w _)
 have hb1:Below w.heap.size w W1:=by
  rw [<-hW1];exact ((Below.refl _ w).alloc (kV _) _).alloc (by simp) _
 have hs1:W1.heap.size=w.heap.size+2:=by rw [<-hW1];simp
 have hI1:I [] W1:=hI _ _ _ h0 (.of_below hb1)
 have wide: ∀{A B:World},Same1 T W1.heap.size A B->Same1 T w.heap.size A B:=fun h=>⟨h.os,h.tape,h.output,h.size,fun k hk hA=>h.low k (by omega) hA,h.block⟩
 refine ⟨w.heap.size+1, [{target:= .collected w.heap.size,args:= #[]}],W1,{target:= .fn (.func gf) lb,args:= #[.func (.yield (w.heap.size+1)) #[] #[]]},W1,gf,
  #[.func (.yield (w.heap.size+1)) #[] #[]] ++ lb,W1, ?_, ?_, ?_, ?_,fun _=>by omega, ?_⟩
 ·rw [<-hW1,hrec];exact run_enterLoop_outer _ _ _ _ _
 ·simp only [resolve,hg]
  simp [go_sem]
 ·intro f' hf';exact trivial
 ·simp [invoke,go_sem,eg]
 have book: ∀{A B:World},Same1 T W1.heap.size A B->A.heap[w.heap.size+1]?=some (.loop (rec .ready none))->A.heap[w.heap.size]?=some (.deferred (some []))->
   B.heap[w.heap.size+1]?=some (.loop (rec .ready none))/\B.heap[w.heap.size]?=some (.deferred (some [])):=fun h h1 h2=>
  ⟨(h.low _ (by omega) (lV.1 h1).1).trans h1,(h.low _ (by omega) (lV.1 h2).1).trans h2⟩
 refine (hiter W1 hb1 (by omega) (w.heap.size+1)
  (fun pre W=>I pre W/\W.heap[w.heap.size+1]?=some (.loop (rec .ready none))/\W.heap[w.heap.size]?=some (.deferred (some [])))
  (fun W=>(∃pre,End pre/\I pre W/\W.heap[w.heap.size+1]?=some (.loop (rec .ready none))/\W.heap[w.heap.size]?=some (.deferred (some [])))\/
   ∃c,Ix c W/\W.heap[w.heap.size+1]?=some (.loop (rec .done (some c)))/\W.heap[w.heap.size]?=some (.deferred (some [])))
  (fun pre W h=>hAux pre W h.1) ?_ ?_ ?_ ⟨hI1,hL1,hK1⟩).mono ?_
 ·rintro pre A B ⟨h1,h2,h3⟩ h
  exact ⟨hI _ _ _ h1 (wide h),book h h2 h3⟩
 ·
  rintro pre x W0 W ⟨hi,hl0,hk0⟩ hsame hpre hstep;obtain ⟨hl,hk⟩:=book hsame hl0 hk0
  have hlt:w.heap.size+1<W.heap.size:=(lV.1 hl).1
  have hy:=run_yield (P:=P) (args:=encs x) hl (by rw [hrec];exact hps x)
  rw [hrec] at hy;have hbA:=hw₁ x W;obtain ⟨WA,hWA⟩:=aj (w₁ x W);rw [hWA] at hbA
  have hl':WA.heap[w.heap.size+1]?=some (.loop (rec .ready none)):=(hbA.block _ hlt).trans hl
  have hk':WA.heap[w.heap.size]?=some (.deferred (some [])):=(hbA.block _ (by omega)).trans hk
  have hltA:w.heap.size+1<WA.heap.size:=lZ hlt hbA.size
  refine ⟨fn,_,assign,body,hy,roundIn_of_wpIn trivial (hassign _ x W _ ?_)⟩;rw [hWA]
  refine ⟨_,run_beginRound hl' (by rw [hrec]), ?_⟩
  have hl2:(WA.putObj (w.heap.size+1) (.loop {rec .ready none with state:= .busy})).heap[w.heap.size+1]?=some (.loop {rec .ready none with state:= .busy}):=World.putObj_heap_same hltA
  have hk2:(WA.putObj (w.heap.size+1) (.loop {rec .ready none with state:= .busy})).heap[w.heap.size]?=some (.deferred (some [])):=(World.putObj_heap_other (by omega)).trans hk'
  have hs2:Same1 T w.heap.size W (WA.putObj (w.heap.size+1) (.loop {rec .ready none with state:= .busy})):=(Same1.of_below hbA).trans (Same1.putObj _ hl' (by omega))
  have hblk: ∀(b:Nat) (t:TypeId) (c:Array Value),Blk (w₁ x W) b t c->Blk (WA.putObj (w.heap.size+1) (.loop {rec .ready none with state:= .busy})) b t c:=fun b t c h=>by
   rw [hWA] at h
   exact (World.putObj_heap_other (fun e=>by subst e;unfold Blk at h;rw [hl'] at h;cases h)).trans h
  refine wpIn_mono (hbody _ pre x W0 W _ hi (wide hsame) hs2 hblk (by rw [hWA];simp [World.putObj]) (by have:=hPre x W0 W (w.heap.size+1) _ {rec .ready none with state:= .busy} hpre (by rw [hWA];exact hl');rw [hWA] at this;exact this) hstep (by omega) (by have:=(lV.1 hl0).1;omega)) ?_
  have fin: ∀(jump:Option Code) (W3:World),KeepsFrom w.heap.size (WA.putObj (w.heap.size+1) (.loop {rec .ready none with state:= .busy})) W3->
    (Instr.endRound (w.heap.size+1) jump).run P W3= .ok (.bool jump.isNone) (W3.putObj (w.heap.size+1) (.loop (rec (if jump.isNone then .ready else .done) jump)))/\
    W3.heap[w.heap.size+1]?=some (.loop {rec .ready none with state:= .busy})/\
    (W3.putObj (w.heap.size+1) (.loop (rec (if jump.isNone then .ready else .done) jump))).heap[w.heap.size+1]?=some (.loop (rec (if jump.isNone then .ready else .done) jump))/\
    (W3.putObj (w.heap.size+1) (.loop (rec (if jump.isNone then .ready else .done) jump))).heap[w.heap.size]?=some (.deferred (some [])):=fun jump W3 hk3=>by
   have hl3:=hk3.same _ _ (by omega) hl2 rfl
   have:=run_endRound (P:=P) jump hl3;rw [hrec] at this⊢
   exact ⟨this,by rw [hrec] at hl3;exact hl3,World.putObj_heap_same (lV.1 hl3).1,(World.putObj_heap_other (by omega)).trans (hk3.same _ _ (kV _) hk2 rfl)⟩
  have putT: ∀(V:World) (r r':Loop),V.heap[w.heap.size+1]?=some (.loop r)->KeepT T V (V.putObj (w.heap.size+1) (.loop r')):=fun V r r' h=>
   ⟨by simp [World.putObj],fun k c fz hc=>(World.putObj_heap_other (fun e=>by subst e;rw [h] at hc;cases hc)).trans hc⟩
  rintro e a3 W3 hp;cases e with
  | normal=>
   obtain ⟨hk3,hkp3,hi3⟩:=hp;obtain ⟨hr,hl3,hl4,hk4⟩:=fin none W3 hk3
   exact ⟨_,_,hr, .inl ⟨rfl,⟨hI _ _ _ hi3 (Same1.putObj _ hl3 (by omega)),hl4,hk4⟩,(KeepT.of_below hbA).trans ((putT WA _ _ hl').trans (hkp3.trans (putT W3 _ _ hl3)))⟩⟩
  | ret=>
   obtain ⟨hk3,hi3⟩:=hp;obtain ⟨hr,hl3,hl4,hk4⟩:=fin (some .ret) W3 hk3
   exact ⟨_,_,hr, .inr ⟨rfl, .inr ⟨.ret,hIx _ _ _ hi3 (Same1.putObj _ hl3 (by omega)),hl4,hk4⟩⟩⟩
  | exit id=>
   obtain ⟨hk3,hi3⟩:=hp;obtain ⟨hr,hl3,hl4,hk4⟩:=fin (some (.exit id)) W3 hk3
   exact ⟨_,_,hr, .inr ⟨rfl, .inr ⟨.exit id,hIx _ _ _ hi3 (Same1.putObj _ hl3 (by omega)),hl4,hk4⟩⟩⟩
  | goto t=>
   obtain ⟨hk3,hi3⟩:=hp;obtain ⟨hr,hl3,hl4,hk4⟩:=fin (some (.goto t)) W3 hk3
   exact ⟨_,_,hr, .inr ⟨rfl, .inr ⟨.goto t,hIx _ _ _ hi3 (Same1.putObj _ hl3 (by omega)),hl4,hk4⟩⟩⟩
  | panic ch=>exact hp.elim
  | outgrown=>exact hp.elim
 ·rintro pre W ⟨h1,h2,h3⟩ hend
  exact .inl ⟨pre,hend,h1,h2,h3⟩
 rintro e W2 ⟨⟨v,rfl⟩,(⟨xs,hend,hi,hl,hk⟩ |⟨c,hi,hl,hk⟩)⟩
 ·exact ⟨none,_,by have:=run_endLoop (P:=P) hl (by rw [hrec];simp);rw [hrec] at this;exact this,hdone _ xs _ (kV _) hend (hI _ _ _ hi (Same1.putObj _ hl (by omega))) ((World.putObj_heap_other (by omega)).trans hk)⟩
 exact ⟨some c,_,by have:=run_endLoop (P:=P) hl (by rw [hrec];simp);rw [hrec] at this;exact this,hstop _ c _ (kV _) (hIx _ _ _ hi (Same1.putObj _ hl (by omega))) ((World.putObj_heap_other (by omega)).trans hk)⟩
attribute [local go_sem] Oper.semAt_some
namespace Lex
theorem scan_err_ne: ∀(k:Nat) (l:List UInt8) (i:Nat) {p e:Nat},(scan k l i).2=some (p,e)->e≠0
 | 0,l,i,p,e,h=>by simp [scan] at h
 | k+1, [],i,p,e,h=>by simp [scan] at h
 | k+1,c :: r,i,p,e,h=>by
  cases ht:tok1 (c :: r) with
  | err o e'=>
   rw [scan_err (by simp) ht] at h
   have:=(tok1_err (by simp) ht).1
   cases h;exact this
  | tok kd tx nm n=>
   rw [scan_tok ht rfl] at h;exact scan_err_ne k _ _ h
end Lex
end Go.Proofs.YtanlehkalkafdaaGreatDoor
namespace Go.Proofs.YtanlehkalkafdaaGreatDoor
open Go Go.RowKit
variable {P:Program} {md:Region.Mode} {ops:Array Oper} {C:World->Prop}
def wide (w:World) (n:Nat) (os:Array Obj):World:={w with drawn:=n,heap:=w.heap ++ os}
structure WideBy where
 n:Nat
 os:Array Obj
instance:Inhabited WideBy:=⟨⟨0,#[]⟩⟩
theorem wide_size (w:World) (n:Nat) (os:Array Obj):w.heap.size<=(wide w n os).heap.size:=by unfold wide;rw [Array.size_append];omega
theorem wide_below (w:World) (n:Nat) (os:Array Obj):Below w.heap.size w (wide w n os):=⟨rfl,rfl,rfl,wide_size w n os,fun k hk=>by unfold wide;exact sJ hk⟩
theorem wide_cell {w:World} {a:Addr} {v:Value} (hb:a.block<w.heap.size) (h:w.cell? a=some v) (n:Nat) (os:Array Obj):(wide w n os).cell? a=some v:=by rw [<-h];exact (wide_below w n os).cell hb
theorem below_wide {w w':World} (h:Below w.heap.size w w'): ∃p:WideBy,w'=wide w p.n p.os:=by
 refine ⟨⟨w'.drawn,w'.heap.extract w.heap.size w'.heap.size⟩, ?_⟩
 have hh:w'.heap=w.heap ++ w'.heap.extract w.heap.size w'.heap.size:=by
  refine Array.ext_getElem? fun i=> ?_
  rcases qj i w.heap.size with hi | hi
  ·rw [sJ hi,h.block i hi]
  rw [Array.getElem?_append_right hi,Array.getElem?_extract];have:=h.size
  split
  ·congr 1;omega
  exact qN (by omega)
 have h1:=h.os;have h2:=h.tape;have h3:=h.output;cases w';cases w;simp only [wide] at*
 subst h1 h2 h3;rw [<-hh]
theorem calls_wide {f:FuncId} {args:Array Value} {w:World} {n:Nat} {os:Array Obj} {v:Value} (h:Calls P f args (wide w n os) fun e w'=>e= .returned v/\Below (wide w n os).heap.size (wide w n os) w'):
  Calls P f args (wide w n os) fun e w'=>e= .returned v/\ ∃p:WideBy,w'=wide w p.n p.os:=
 h.mono fun _ _ ⟨he,hb⟩=>⟨he,below_wide ((wide_below w n os).trans (hb.mono (wide_size w n os)))⟩
theorem wp_region_quiet_wide {id:Nat} {Q:Exit->Act->World->Prop} {a:Act} {w:World} {l:List Oper} (hm:P.follows .mixedOrders=true) (hB:Region.lexB .any l.toArray=true)
  (h:wpQuiet P l.toArray (fun w'=> ∃p:WideBy,w'=wide w p.n p.os) (fun a'=> ∀w',(∃p:WideBy,w'=wide w p.n p.os)->Q .normal a' w') l a):(Code.region id l.toArray true).wp P Q a w:=
 wp_region_quiet (C:=fun w'=> ∃p:WideBy,w'=wide w p.n p.os) hm hB (below_wide ⟨rfl,rfl,rfl,kV _,fun _ _=>rfl⟩) (by simpa using h)
end Go.Proofs.YtanlehkalkafdaaGreatDoor
namespace Go.Proofs.YtanlehkalkafdaaGreatDoor
open Go.RowKit
attribute [local go_sem] Oper.semAt_some
def hv (kd:Nat) (m:List UInt8):List Lex.Tok->Option (List Lex.Tok)
 | []=>none
 | t :: r=>if t.kind=kd/\t.text=m then some r else none
end Go.Proofs.YtanlehkalkafdaaGreatDoor
