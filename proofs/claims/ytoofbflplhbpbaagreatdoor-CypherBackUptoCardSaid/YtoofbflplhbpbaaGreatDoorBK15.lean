/- Contracts and plain laws,part 15. -/
import Derived.Test.YtoofbflplhbpbaaGreatDoorBK14
set_option linter.all false
namespace Go.Proofs.YtoofbflplhbpbaaGreatDoor.Cy
open Go
abbrev C:=Nat×L×Int
def core (t:Lex.Tok):C:=(t.kind,t.text,t.num)
def Rds (s:L) (cs:List C):Prop:= ∀i,(Lex.body s i).1.map core=cs∧(Lex.body s i).2=none
theorem Rds.nil:Rds [] []:=fun i=>by rw [Lex.Gw i rfl];exact ⟨rfl,rfl⟩
theorem Rds.tok {l r:L} {k:Nat} {t:L} {n:Int} {m:Nat} {cs:List C} (hg:Lex.gap false l=0) (ht:Lex.tok1 l= .tok k t n m) (hd:l.drop m=r) (h:Rds r cs):Rds l ((k,t,n) :: cs):=fun i=>by
 subst hd
 rw [Lex.Gx (l':=l) (by rw [hg];rfl) ht]
 obtain ⟨h1,h2⟩:=h (i+Lex.gap false l+m)
 exact ⟨by rw [List.map_cons,h1];rfl,h2⟩
theorem Rds.blank {c:UInt8} {r:L} {cs:List C} (hc:Lex.blank c=true) (h:Rds r cs):Rds (c :: r) cs:=fun i=>by
 have h47:c≠47:=by rintro rfl;exact absurd hc (by decide)
 have hg:Lex.gap false (c :: r)=Lex.gap false r+1:=by simp only [Lex.gap];rw [if_neg (fun x=>h47 x.1),if_pos hc,Nat.add_comm]
 have e:Lex.body (c :: r) i=Lex.body r (i+1):=by
  unfold Lex.body
  rw [hg,List.drop_succ_cons,List.length_cons,show i+(Lex.gap false r+1)=i+1+Lex.gap false r by omega]
  exact Lex.rZ _ _ _ _ (by rw [List.length_drop];omega) (by rw [List.length_drop];omega)
 rw [e]
 exact h _
theorem gap0 {c:UInt8} {r:L} (h1:Lex.blank c=false) (h2:c≠47):Lex.gap false (c :: r)=0:=by
 simp only [Lex.gap]
 rw [if_neg (fun x=>h2 x.1),if_neg (by rw [h1];decide)]
def mk (c:UInt8):C:=(5, [c],0)
def ONES:L:= [40,41,123,125,91,93,58,44,59]
theorem JF: ∀c:Fin 256,UInt8.ofNat c.val∈ONES→UInt8.ofNat c.val≠39∧Lex.isLet (UInt8.ofNat c.val)=false∧Num.au (UInt8.ofNat c.val)=false∧UInt8.ofNat c.val≠45∧UInt8.ofNat c.val∈Lex.MARKS∧Lex.blank (UInt8.ofNat c.val)=false∧UInt8.ofNat c.val≠47:=by decide+kernel
theorem Rds.mark {c:UInt8} {r:L} {cs:List C} (hc:c∈ONES) (h:Rds r cs):Rds (c :: r) (mk c :: cs):=by
 have hf:=JF ⟨c.toNat,UInt8.toNat_lt c⟩
 simp only [UInt8.ofNat_toNat] at hf
 obtain ⟨h1,h2,h3,h4,h5,h6,h7⟩:=hf hc
 refine Rds.tok (m:=1) (gap0 h6 h7) ?_ rfl h
 simp only [Lex.tok1]
 rw [if_neg h1,if_neg (by rw [h2];decide),if_neg (by rw [h3];simp [h4]),if_neg (fun x=>h4 x.1),if_pos h5]
theorem Rds.dash {c:UInt8} {r:L} {cs:List C} (hc:c=91) (h:Rds (c :: r) cs):Rds (45 :: c :: r) (mk 45 :: cs):=by
 subst hc
 refine Rds.tok (m:=1) (gap0 (by decide) (by decide)) ?_ rfl h
 simp only [Lex.tok1]
 rw [if_neg (by decide),if_neg (by decide),if_neg (by simp;decide),if_neg (by simp),if_pos (by decide)]
theorem Rds.arrow {r:L} {cs:List C} (h:Rds r cs):Rds (45 :: 62 :: r) ((5, [45,62],0) :: cs):=by
 refine Rds.tok (m:=2) (gap0 (by decide) (by decide)) ?_ rfl h
 simp only [Lex.tok1]
 rw [if_neg (by decide),if_neg (by decide),if_neg (by simp;decide),if_pos (by simp)]
theorem um {p:UInt8→Bool}: ∀(w r:L),(∀x∈w,p x=true)→r.head?.any p=false→Lex.run p (w ++ r)=w.length
 | [], [],_,_=>rfl
 | [],c :: r,_,h=>by rw [List.nil_append,Lex.mQ r (by simpa using h)];rfl
 | c :: w,r,hw,h=>by
  rw [List.cons_append,Lex.jD _ (hw c (by simp)),um w r (fun x hx=>hw x (List.mem_cons_of_mem _ hx)) h,List.length_cons,Nat.add_comm]
theorem Ae: ∀c:Fin 256,Lex.isLet (UInt8.ofNat c.val)=true→UInt8.ofNat c.val≠39∧Lex.blank (UInt8.ofNat c.val)=false∧UInt8.ofNat c.val≠47∧Lex.aF (UInt8.ofNat c.val)=true:=by decide+kernel
theorem uo: ∀c:Fin 256,Num.au (UInt8.ofNat c.val)=true→UInt8.ofNat c.val≠39∧Lex.blank (UInt8.ofNat c.val)=false∧UInt8.ofNat c.val≠47∧Lex.isLet (UInt8.ofNat c.val)=false∧Lex.bD (UInt8.ofNat c.val)=true∧UInt8.ofNat c.val≠120∧Lex.aF (UInt8.ofNat c.val)=true:=by decide+kernel
theorem uq {c:UInt8} (h:Lex.aF c=true):Lex.bD c=true:=by unfold Lex.bD;rw [h];rfl
def Stop (r:L):Prop:=r.head?.any Lex.bD=false
theorem Stop.word {r:L} (h:Stop r):r.head?.any Lex.aF=false:=by
 unfold Stop at h
 cases r with
 | nil=>rfl
 | cons c r=>
  simp only [List.head?_cons,Option.any_some] at h⊢
  cases hw:Lex.aF c with
  | false=>rfl
  | true=>rw [uq hw] at h;cases h
theorem Rds.word {c:UInt8} {w r:L} {cs:List C} (hc:Lex.isLet c=true) (hw: ∀x∈w,Lex.aF x=true) (hr:Stop r) (h:Rds r cs):Rds (c :: w ++ r) ((1,c :: w,0) :: cs):=by
 have hf:=Ae ⟨c.toNat,UInt8.toNat_lt c⟩
 simp only [UInt8.ofNat_toNat] at hf
 obtain ⟨h1,h2,h3,h4⟩:=hf hc
 have hrun:Lex.run Lex.aF (c ::(w ++ r))=(c :: w).length:=um (c :: w) r (fun x hx=>(List.mem_cons.1 hx).elim (fun e=>e▸h4) (hw x)) hr.word
 refine Rds.tok (m:=(c :: w).length) (gap0 h2 h3) ?_ (List.drop_left ..) h
 rw [List.cons_append]
 simp only [Lex.tok1]
 rw [if_neg h1,if_pos hc,hrun,←List.cons_append,List.take_left]
theorem Rds.num {c:UInt8} {w r t:L} {k:Nat} {n:Int} {cs:List C} (hc:Num.au c=true∨(c=45∧w.head?.any Num.au=true)) (hw: ∀x∈w,Lex.bD x=true) (hr:Stop r)
  (hn:Lex.eH (c :: w)= .tok k t n (c :: w).length) (h:Rds r cs):Rds (c :: w ++ r) ((k,t,n) :: cs):=by
 have hf:=uo ⟨c.toNat,UInt8.toNat_lt c⟩
 simp only [UInt8.ofNat_toNat] at hf
 have hrun:=um w r hw hr
 have h39:c≠39:=hc.elim (fun hc=>(hf hc).1) fun hc=>by rw [hc.1];decide
 have hbl:Lex.blank c=false:=hc.elim (fun hc=>(hf hc).2.1) fun hc=>by rw [hc.1];decide
 have h47:c≠47:=hc.elim (fun hc=>(hf hc).2.2.1) fun hc=>by rw [hc.1];decide
 have hlt:Lex.isLet c=false:=hc.elim (fun hc=>(hf hc).2.2.2.1) fun hc=>by rw [hc.1];decide
 refine Rds.tok (m:=(c :: w).length) (gap0 hbl h47) ?_ (List.drop_left ..) h
 rw [List.cons_append]
 simp only [Lex.tok1]
 rw [if_neg h39,if_neg (by rw [hlt];decide),if_pos,hrun,Nat.add_comm,←List.length_cons (a:=c),←List.cons_append,List.take_left,hn]
 rcases hc with hc |⟨h45,hd⟩
 ·exact .inl hc
 ·refine .inr ⟨h45, ?_⟩
  cases w with
  | nil=>simp at hd
  | cons d w=>simpa using hd
theorem JG {q:L} (h:q.all Num.au=true): ∀x∈q,Lex.bD x=true:=fun x hx=>by
 have hf:=uo ⟨x.toNat,UInt8.toNat_lt x⟩
 simp only [UInt8.ofNat_toNat] at hf
 exact (hf (List.all_eq_true.1 h x hx)).2.2.2.2.1
theorem JH {q:L} (h:q.all Num.au=true):Lib.hasPrefix q [48,120]=false:=by
 cases hp:Lib.hasPrefix q [48,120] with
 | false=>rfl
 | true=>
  obtain ⟨r,e⟩:=(Cel.mP q [48,120]).1 hp
  rw [e] at h
  exact absurd (List.all_eq_true.1 h 120 (by simp)) (by decide)
theorem JI {neg:Bool} {q:L} (hg:Num.Good neg q): ∃d q',q=d :: q':=by
 rcases hg.2 with ⟨d,t,e,-⟩ |⟨e,-⟩
 ·exact ⟨d,t,e⟩
 ·exact ⟨48, [],e⟩
theorem Rds.int {n:Int} {r:L} {cs:List C} (hn:Cel.In64 n) (hr:Stop r) (h:Rds r cs):Rds (Lib.itoa n ++ r) ((2, [],n) :: cs):=by
 obtain ⟨neg,q,e,hg,-⟩:=Num.oO n
 have hp:=Num.xC n hn.1 hn.2
 have hz:=JH hg.1
 have hq:=JG hg.1
 have hh:Lex.jC (Lib.itoa n)=q:=by
  rw [e]
  cases neg with
  | true=>rfl
  | false=>
   unfold Lex.jC
   rw [show Num.sg false ++ q=q from rfl,if_neg (Num.rM hg)]
 have hnt:Lex.eH (Lib.itoa n)= .tok 2 [] n (Lib.itoa n).length:=by
  unfold Lex.eH
  rw [hh,hz,hp]
  rfl
 obtain ⟨d,q',rfl⟩:=JI hg
 have hd:Num.au d=true:=List.all_eq_true.1 hg.1 d (by simp)
 cases neg with
 | true=>
  have e':Lib.itoa n=45 :: d :: q':=e
  rw [e'] at hnt⊢
  exact Rds.num (.inr ⟨rfl,by simpa using hd⟩) hq hr hnt h
 | false=>
  have e':Lib.itoa n=d :: q':=e
  rw [e'] at hnt⊢
  exact Rds.num (.inl hd) (fun x hx=>hq x (List.mem_cons_of_mem _ hx)) hr hnt h
theorem uw (n:Int) (hn:0≤n): ∀x∈Lib.itoa n,Lex.aF x=true:=by
 obtain ⟨neg,q,e,hg,-,-,hneg⟩:=Num.oO n
 cases neg with
 | true=>have:=hneg.1 rfl;omega
 | false=>
  intro x hx
  rw [e] at hx
  have hf:=uo ⟨x.toNat,UInt8.toNat_lt x⟩
  simp only [UInt8.ofNat_toNat] at hf
  exact (hf (List.all_eq_true.1 hg.1 x hx)).2.2.2.2.2.2
theorem JJ: ∀d:Fin 16,Lex.bD (Num.bC d.val)=true:=by decide
theorem Af: ∀(k n:Nat),∀x∈Num.hexN k n,Lex.bD x=true
 | 0,n,x,h=>by simp [Num.hexN] at h
 | k+1,n,x,h=>by
  unfold Num.hexN at h
  rcases List.mem_append.1 h with h | h
  ·exact Af k _ x h
  ·rw [List.mem_singleton.1 h]
   exact JJ ⟨n % 16,Nat.mod_lt _ (by decide)⟩
theorem JK (f:Nat): ∀x∈Num.fV f,Lex.bD x=true:=by
 intro x hx
 unfold Num.fV at hx
 split at hx
 ·cases hx
 ·rcases List.mem_cons.1 hx with rfl | h
  ·decide
  ·obtain ⟨j,e,-⟩:=Num.oP _ (Num.hexN 13 f) rfl
   exact Af 13 f x (by rw [e];exact List.mem_append_left _ h)
theorem JL (e:Int): ∀x∈Num.bI e,Lex.bD x=true:=by
 intro x hx
 unfold Num.bI at hx
 split at hx
 ·rcases List.mem_cons.1 hx with rfl | h
  ·decide
  ·exact uq (uw _ (by omega) x h)
 ·rcases List.mem_cons.1 hx with rfl | h
  ·decide
  ·exact uq (uw _ (by omega) x h)
theorem JM (b:Nat): ∃neg q,Num.fmt b=Num.sg neg ++ 48 :: 120 :: q∧ ∀x∈q,Lex.bD x=true:=by
 unfold Num.fmt
 split
 ·exact ⟨false, [110,97,110],rfl,by decide⟩
 ·refine ⟨decide (9223372036854775808≤b), ?_⟩
  unfold Num.aY
  split
  ·exact ⟨[105,110,102],rfl,by decide⟩
  ·split
   ·exact ⟨[48],by rfl,by decide⟩
   ·refine ⟨49 ::(Num.fV (Num.bW (b % 9223372036854775808)) ++ Num.bI (Num.bP (b % 9223372036854775808))),rfl,fun x hx=> ?_⟩
    rcases List.mem_cons.1 hx with rfl | hx
    ·decide
    ·rcases List.mem_append.1 hx with hx | hx
     ·exact JK _ x hx
     ·exact JL _ x hx
theorem Rds.float {b:Nat} {r:L} {cs:List C} (hb:b<18446744073709551616) (hc:Num.canon b=b) (hr:Stop r) (h:Rds r cs):Rds (Num.fmt b ++ r) ((3, [],Cel.s64 b) :: cs):=by
 obtain ⟨neg,q,e,hq⟩:=JM b
 have hp:=Num.Gl hb
 rw [hc] at hp
 have hh:Lex.jC (Num.fmt b)=48 :: 120 :: q:=by
  rw [e]
  cases neg with
  | true=>rfl
  | false=>unfold Lex.jC;rw [if_neg (by simp [Num.sg])];rfl
 have hnt:Lex.eH (Num.fmt b)= .tok 3 [] (Cel.s64 b) (Num.fmt b).length:=by
  unfold Lex.eH
  rw [hh,hp,if_pos ((Cel.mP (48 :: 120 :: q) [48,120]).2 ⟨q,rfl⟩)]
  rfl
 have hq': ∀x∈48 :: 120 :: q,Lex.bD x=true:=fun x hx=>by
  rcases List.mem_cons.1 hx with rfl | hx
  ·decide
  ·rcases List.mem_cons.1 hx with rfl | hx
   ·decide
   ·exact hq x hx
 cases neg with
 | true=>
  have e':Num.fmt b=45 :: 48 :: 120 :: q:=e
  rw [e'] at hnt⊢
  exact Rds.num (.inr ⟨rfl,by rfl⟩) hq' hr hnt h
 | false=>
  have e':Num.fmt b=48 :: 120 :: q:=e
  rw [e'] at hnt⊢
  exact Rds.num (.inl (by decide)) (fun x hx=>hq' x (List.mem_cons_of_mem _ hx)) hr hnt h
theorem Rds.quote {s r:L} {cs:List C} (h:Rds r cs):Rds (Lex.quote s ++ r) ((4,s,0) :: cs):=by
 have hl:=Lex.GI s
 refine Rds.tok (m:=(Lex.quote s).length) (gap0 (by decide) (by decide)) ?_ (List.drop_left ..) h
 unfold Lex.quote
 rw [List.cons_append]
 simp only [Lex.tok1,if_true]
 have:=Lex.sF r ((s.flatMap Lex.q1 ++ [39]).length+1) ((s.flatMap Lex.q1 ++ [39] ++ r).length+1) _ _ _
  (Lex.yE s ((s.flatMap Lex.q1 ++ [39]).length+1) 1 [] (by rw [List.length_append,List.length_singleton];omega)) (by simp only [List.length_append];omega)
 rw [this]
 simp only [List.nil_append,List.length_cons,List.length_append,List.length_nil]
 congr 1
 omega
def Seg (s:L) (t:List C):Prop:= ∀r cs,Stop r→Rds r cs→Rds (s ++ r) (t ++ cs)
def eY:List (List C)→List C
 | []=> []
 | [a]=>a
 | a :: b :: r=>a ++ mk 44 :: eY (b :: r)
theorem Seg.join: ∀l:List (L×List C),(∀x∈l,Seg x.1 x.2)→Seg (join [44,32] (l.map Prod.fst)) (eY (l.map Prod.snd))
 | [],_=>fun r cs _ hR=>hR
 | [a],h=>h a (by simp)
 | a :: b :: l,h=>fun r cs hs hR=>by
  have ih:=Seg.join (b :: l) (fun x hx=>h x (List.mem_cons_of_mem _ hx)) r cs hs hR
  have:=h a (by simp) (44 :: 32 ::(Cy.join [44,32] ((b :: l).map Prod.fst) ++ r)) _ (by rfl) (Rds.mark (by decide) (Rds.blank (by decide) ih))
  simp only [List.map_cons,Cy.join,eY,List.append_assoc,List.cons_append,List.nil_append] at this⊢
  exact this
def scT (k n:Int) (t:L):C:=if k=1 then (1,if n=1 then Cel.TRUE else Cel.FALSE,0) else if k=2 then (2, [],n) else if k=3 then (3, [],n) else (4,t,0)
theorem Seg.nO {c:UInt8} {w:L} (hc:Lex.isLet c=true) (hw: ∀x∈w,Lex.aF x=true):Seg (c :: w) [(1,c :: w,0)]:=fun _ _ hs hR=>Rds.word hc hw hs hR
theorem Seg.scalar {k n:Int} {t:L} (hn:Cel.In64 n) (h:Cel.aV k n=0):Seg (Cy.scalar k n t) [scT k n t]:=fun r cs hs hR=>by
 unfold Cy.scalar scT
 by_cases h1:k=1
 ·rw [if_pos h1,if_pos h1]
  by_cases h2:n=1
  ·rw [if_pos h2];exact Rds.word (by decide) (by decide) hs hR
  ·rw [if_neg h2];exact Rds.word (by decide) (by decide) hs hR
 rw [if_neg h1,if_neg h1]
 by_cases h2:k=2
 ·rw [if_pos h2,if_pos h2];exact Rds.int hn hs hR
 rw [if_neg h2,if_neg h2]
 by_cases h3:k=3
 ·rw [if_pos h3,if_pos h3]
  unfold Cel.aV at h
  rw [if_neg (fun x=>h1 x.1)] at h
  have hnb:Cel.jA n=false:=by
   cases hb:Cel.jA n with
   | false=>rfl
   | true=>rw [if_pos ⟨h3,hb⟩] at h;cases h
  have:=Rds.float (Cel.kV n) (Cel.Gp hnb) hs hR
  rw [Cel.Gm hn] at this
  exact this
 ·rw [if_neg h3,if_neg h3];exact Rds.quote hR
def kC (v:Cel.V):List (L×List C):=v.nums.map (fun n=>(Cy.scalar (v.kind - 4) n [], [scT (v.kind - 4) n []])) ++ v.texts.map (fun t=>(Cy.scalar (v.kind - 4) 0 t, [scT (v.kind - 4) 0 t]))
theorem Ag (v:Cel.V):(kC v).map Prod.fst=parts v:=by unfold kC parts;rw [List.map_append,List.map_map,List.map_map];rfl
def aU (w:L):C:=(1,w,0)
def lu (v:Cel.V):List C:=if v.kind≤4 then [scT v.kind v.num v.text] else mk 91 :: mk 58 :: aU (Cy.word (v.kind - 4)) ::(eY ((kC v).map Prod.snd) ++ [mk 93])
structure uy (v:Cel.V):Prop where
 ck:Cel.check v=0
 num:Cel.In64 v.num
 nums: ∀n∈v.nums,Cel.In64 n
theorem nI {k:Int}: ∀{l:List Int},Cel.dD k l=0→ ∀n∈l,Cel.aV k n=0
 | [],_,n,h=>by cases h
 | a :: l,h0,n,h=>by
  obtain ⟨h1,h2⟩:=Cel.yw h0
  rcases List.mem_cons.1 h with rfl | h
  ·exact h1
  ·exact nI h2 n h
theorem Ah {k n:Int} (h:4≤k):Cel.aV k n=0:=by
 unfold Cel.aV
 rw [if_neg (by omega),if_neg (by omega)]
theorem Ai {k:Int}:Seg (Cy.word k) [aU (Cy.word k)]:=by
 unfold Cy.word
 repeat' split
 all_goals exact Seg.nO (by decide) (by decide)
theorem Seg.lit {v:Cel.V} (h:uy v):Seg (Cy.lit v) (lu v):=fun r cs hs hR=>by
 obtain ⟨p1,p2,p3,p4,p5,p6,p7,p8⟩:=Cel.jB h.ck
 unfold Cy.lit lu
 by_cases h4:v.kind≤4
 ·rw [if_pos h4,if_pos h4]
  refine Seg.scalar h.num ?_ r cs hs hR
  by_cases h5:v.kind=4
  ·exact Ah (by omega)
  ·rw [if_pos (by omega)] at p8;exact p8
 rw [if_neg h4,if_neg h4]
 rw [if_neg (by omega)] at p8
 have hj:=Seg.join (kC v) (fun x hx=>by
  unfold kC at hx
  rcases List.mem_append.1 hx with hx | hx
  ·obtain ⟨n,hn,rfl⟩:=List.mem_map.1 hx
   exact Seg.scalar (h.nums n hn) (nI p8 n hn)
  ·obtain ⟨t,ht,rfl⟩:=List.mem_map.1 hx
   refine Seg.scalar ⟨by decide,by decide⟩ ?_
   by_cases h8:v.kind=8
   ·exact Ah (by omega)
   ·exfalso
    apply p3
    unfold Cel.Unused
    exact .inr (.inr (.inr ⟨fun e=>(by rw [e] at ht;cases ht),h8⟩)))
 rw [Ag] at hj
 have hend:Rds (93 :: r) (mk 93 :: cs):=Rds.mark (by decide) hR
 by_cases h0:parts v= []
 ·rw [if_pos h0]
  have hpp:kC v= []:=List.map_eq_nil_iff.1 ((Ag v).trans h0)
  rw [hpp]
  have:=Rds.mark (c:=91) (by decide) (Rds.mark (c:=58) (by decide) (Ai (k:=v.kind - 4) (93 :: r) _ (by rfl) hend))
  simpa [eY] using this
 ·rw [if_neg h0]
  have:=Rds.mark (c:=91) (by decide) (Rds.mark (c:=58) (by decide) (Ai (k:=v.kind - 4) _ _ (by rfl) (Rds.blank (c:=32) (by decide) (hj (93 :: r) _ (by rfl) hend))))
  simpa using this
theorem JO {s:L} (h:Gr.aI s=true): ∃c w,s=c :: w∧Lex.isLet c=true∧ ∀x∈w,Lex.aF x=true:=by
 unfold Gr.aI at h
 simp only [Bool.and_eq_true,decide_eq_true_eq,Bool.not_eq_true'] at h
 obtain ⟨⟨⟨h1,-⟩,h3⟩,h4⟩:=h
 cases s with
 | nil=>exact absurd rfl h1
 | cons c w=>
  refine ⟨c,w,rfl, ?_,fun x hx=>List.all_eq_true.1 h4 x (List.mem_cons_of_mem _ hx)⟩
  have:=List.all_eq_true.1 h4 c (by simp)
  simp only [List.head?_cons,Option.any_some] at h3
  unfold Lex.aF at this
  rw [h3,Bool.or_false] at this
  exact this
theorem Seg.name {s:L} (h:Gr.aI s=true):Seg s [aU s]:=by
 obtain ⟨c,w,rfl,h1,h2⟩:=JO h
 exact Seg.nO h1 h2
structure kD (p:Gr.P):Prop where
 name:Gr.aI p.key=true
 val:uy p.val
def iV (p:Gr.P):List C:=aU p.key :: mk 58 :: lu p.val
def iJ (ps:List Gr.P):List C:=if ps= [] then [] else mk 123 ::(eY (ps.map iV) ++ [mk 125])
theorem Seg.prop {p:Gr.P} (h:kD p):Seg (bZ p) (iV p):=fun r cs hs hR=>by
 have:=Seg.name h.name _ _ (by rfl) (Rds.mark (c:=58) (by decide) (Rds.blank (c:=32) (by decide) (Seg.lit h.val r cs hs hR)))
 simpa [bZ,iV] using this
theorem Seg.map {ps:List Gr.P} (h: ∀p∈ps,kD p):Seg (fE ps) (iJ ps):=fun r cs hs hR=>by
 have hj:=Seg.join (ps.map fun p=>(bZ p,iV p)) (fun x hx=>by obtain ⟨p,hp,rfl⟩:=List.mem_map.1 hx;exact Seg.prop (h p hp))
 rw [List.map_map,List.map_map] at hj
 unfold fE iJ
 by_cases h0:ps= []
 ·rw [if_pos h0,if_pos h0];exact hR
 rw [if_neg h0,if_neg h0]
 have:=Rds.blank (c:=32) (by decide) (Rds.mark (c:=123) (by decide) (hj (125 :: r) _ (by rfl) (Rds.mark (c:=125) (by decide) hR)))
 simpa [Function.comp_def] using this
theorem idw {c:UInt8} {n:Int} (hc:Lex.isLet c=true) (hn:0≤n):Seg (c :: Lib.itoa n) [aU (c :: Lib.itoa n)]:=Seg.nO hc (uw n hn)
structure nP (n:Gr.N):Prop where
 lo:0≤n.id
 hi:n.id<1024
 labels: ∀l∈n.labels,Gr.aI l=true
 props: ∀p∈n.props,kD p
structure nR (r:Gr.R):Prop where
 lo:0≤r.id
 hi:r.id<2048
 slo:0≤r.src
 shi:r.src<1024
 dlo:0≤r.dst
 dhi:r.dst<1024
 name:Gr.aI r.type=true
 props: ∀p∈r.props,kD p
def CR:C:=aU fK
def kE (n:Gr.N):List C:=CR :: mk 40 :: aU (110 :: Lib.itoa n.id) ::(n.labels.flatMap (fun l=> [mk 58,aU l]) ++(iJ n.props ++ [mk 41,mk 59]))
def kF (r:Gr.R):List C:=CR :: mk 40 :: aU (110 :: Lib.itoa r.src) :: mk 41 :: mk 45 :: mk 91 :: aU (114 :: Lib.itoa r.id) :: mk 58 :: aU r.type ::(iJ r.props ++ [mk 93,(5, [45,62],0),mk 40,aU (110 :: Lib.itoa r.dst),mk 41,mk 59])
theorem Rds.labels: ∀(ls:List L),(∀l∈ls,Gr.aI l=true)→ ∀{r:L} {cs:List C},Stop r→Rds r cs→Stop (ls.flatMap (fun l=>58 :: l) ++ r)∧Rds (ls.flatMap (fun l=>58 :: l) ++ r) (ls.flatMap (fun l=> [mk 58,aU l]) ++ cs)
 | [],_,r,cs,hs,hR=>⟨hs,hR⟩
 | l :: ls,h,r,cs,hs,hR=>by
  obtain ⟨h1,h2⟩:=Rds.labels ls (fun x hx=>h x (List.mem_cons_of_mem _ hx)) hs hR
  refine ⟨by rfl, ?_⟩
  have:=Rds.mark (c:=58) (by decide) (Seg.name (h l (by simp)) _ _ h1 h2)
  simpa using this
theorem Aj {ps:List Gr.P} {r:L} (h:Stop r):Stop (fE ps ++ r):=by
 unfold fE
 split
 ·exact h
 ·rfl
theorem Rds.node {n:Gr.N} {r:L} {cs:List C} (h:nP n) (hR:Rds r cs):Rds (bM n ++ r) (kE n ++ cs):=by
 have e1:Rds (41 :: 59 :: 10 :: r) (mk 41 :: mk 59 :: cs):=Rds.mark (by decide) (Rds.mark (by decide) (Rds.blank (by decide) hR))
 have e2:=Seg.map h.props _ _ (by rfl) e1
 obtain ⟨s3,e3⟩:=Rds.labels n.labels h.labels (Aj (by rfl)) e2
 have e4:=idw (c:=110) (by decide) h.lo _ _ s3 e3
 have e5:=Seg.nO (c:=67) (w:= [82,69,65,84,69]) (by decide) (by decide) _ _ (by rfl) (Rds.blank (c:=32) (by decide) (Rds.mark (c:=40) (by decide) e4))
 simpa [bM,kE,fK,CR,aU] using e5
theorem Rds.rel {n:Gr.R} {r:L} {cs:List C} (h:nR n) (hR:Rds r cs):Rds (dH n ++ r) (kF n ++ cs):=by
 have e1:Rds (41 :: 59 :: 10 :: r) (mk 41 :: mk 59 :: cs):=Rds.mark (by decide) (Rds.mark (by decide) (Rds.blank (by decide) hR))
 have e2:=idw (c:=110) (by decide) h.dlo _ _ (by rfl) e1
 have e3:=Seg.map h.props _ _ (by rfl) (Rds.mark (c:=93) (by decide) (Rds.arrow (Rds.mark (c:=40) (by decide) e2)))
 have e4:=Seg.name h.name _ _ (Aj (by rfl)) e3
 have e5:=idw (c:=114) (by decide) h.lo _ _ (by rfl) (Rds.mark (c:=58) (by decide) e4)
 have e6:=idw (c:=110) (by decide) h.slo _ _ (by rfl) (Rds.mark (c:=41) (by decide) (Rds.dash rfl (Rds.mark (c:=91) (by decide) e5)))
 have e7:=Seg.nO (c:=67) (w:= [82,69,65,84,69]) (by decide) (by decide) _ _ (by rfl) (Rds.blank (c:=32) (by decide) (Rds.mark (c:=40) (by decide) e6))
 simpa [dH,kF,fK,CR,aU] using e7
theorem Rds.nodes: ∀(ns:List Gr.N),(∀n∈ns,nP n)→ ∀{r:L} {cs:List C},Rds r cs→Rds (ns.flatMap bM ++ r) (ns.flatMap kE ++ cs)
 | [],_,_,_,hR=>hR
 | n :: ns,h,r,cs,hR=>by
  have:=Rds.node (h n (by simp)) (Rds.nodes ns (fun x hx=>h x (List.mem_cons_of_mem _ hx)) hR)
  simpa using this
theorem Rds.ah: ∀(ns:List Gr.R),(∀n∈ns,nR n)→ ∀{r:L} {cs:List C},Rds r cs→Rds (ns.flatMap dH ++ r) (ns.flatMap kF ++ cs)
 | [],_,_,_,hR=>hR
 | n :: ns,h,r,cs,hR=>by
  have:=Rds.rel (h n (by simp)) (Rds.ah ns (fun x hx=>h x (List.mem_cons_of_mem _ hx)) hR)
  simpa using this
theorem cO {m:L} {n:Int} {l:T} {cs:List C} (h:l.map core=(5,m,n) :: cs): ∃r,mark m l=some r∧r.map core=cs:=by
 cases l with
 | nil=>cases h
 | cons t r=>
  rw [List.map_cons,List.cons.injEq] at h
  obtain ⟨h1,h2⟩:=h
  unfold core at h1
  rw [Prod.mk.injEq,Prod.mk.injEq] at h1
  exact ⟨r,by rw [mark,if_pos ⟨h1.1,h1.2.1⟩],h2⟩
theorem gW {m:L} {c:C} {l:T} {cs:List C} (h:l.map core=c :: cs) (hne:c.1≠5∨c.2.1≠m):mark m l=none:=by
 cases l with
 | nil=>rfl
 | cons t r=>
  rw [List.map_cons,List.cons.injEq] at h
  rw [mark,if_neg]
  rintro ⟨h1,h2⟩
  rw [←h.1] at hne
  exact hne.elim (fun x=>x h1) (fun x=>x h2)
theorem jI {w:L} {n:Int} {l:T} {cs:List C} (h:l.map core=(1,w,n) :: cs): ∃r,bT l=some (w,r)∧r.map core=cs:=by
 cases l with
 | nil=>cases h
 | cons t r=>
  rw [List.map_cons,List.cons.injEq] at h
  obtain ⟨h1,h2⟩:=h
  unfold core at h1
  rw [Prod.mk.injEq,Prod.mk.injEq] at h1
  exact ⟨r,by rw [bT,if_pos h1.1,h1.2.1],h2⟩
structure Sc (k n:Int) (t:L):Prop where
 lo:1≤k
 hi:k≤4
 b:k=1→n=0∨n=1
 t:k≠4→t= []
 n:k=4→n=0
theorem uz {k n:Int} {t:L} {l:T} {cs:List C} (hs:Sc k n t) (h:l.map core=scT k n t :: cs): ∃r,eX l=some ((k,n,t),r)∧r.map core=cs:=by
 cases l with
 | nil=>cases h
 | cons u r=>
  rw [List.map_cons,List.cons.injEq] at h
  obtain ⟨h1,h2⟩:=h
  refine ⟨r, ?_,h2⟩
  unfold core scT at h1
  rw [eX]
  by_cases k1:k=1
  ·subst k1
   rw [if_pos rfl,Prod.mk.injEq,Prod.mk.injEq] at h1
   rw [if_pos h1.1,h1.2.1,hs.t (by decide)]
   rcases hs.b rfl with rfl | rfl
   ·rfl
   ·rfl
  rw [if_neg k1] at h1
  by_cases k2:k=2
  ·subst k2
   rw [if_pos rfl,Prod.mk.injEq,Prod.mk.injEq] at h1
   rw [if_neg (by omega),if_pos h1.1,h1.2.2,hs.t (by decide)]
  rw [if_neg k2] at h1
  by_cases k3:k=3
  ·subst k3
   rw [if_pos rfl,Prod.mk.injEq,Prod.mk.injEq] at h1
   rw [if_neg (by omega),if_neg (by omega),if_pos h1.1,h1.2.2,hs.t (by decide)]
  rw [if_neg k3,Prod.mk.injEq,Prod.mk.injEq] at h1
  have:=hs.lo
  have:=hs.hi
  obtain rfl:k=4:=by omega
  rw [if_neg (by omega),if_neg (by omega),if_neg (by omega),if_pos h1.1,h1.2.1,hs.n rfl]
theorem uD {k n:Int} {t:L}:(scT k n t).1≠5:=by
 unfold scT
 repeat' split
 all_goals simp
theorem Ak {k:Int} (h1:1≤k) (h4:k≤4):kindOf (word k)=k:=by
 have:k=1∨k=2∨k=3∨k=4:=by omega
 rcases this with rfl | rfl | rfl | rfl<;> decide
theorem Am {k:Int}: ∀(xs:List (Int×L)) (f:Nat) (l:T) (ns:List Int) (ts:List L) (cs:List C),xs≠ []→xs.length≤f→(∀x∈xs,Sc k x.1 x.2)→
  l.map core=eY (xs.map fun x=> [scT k x.1 x.2]) ++ mk 93 :: cs→
  ∃r,elems k f l ns ts=some ((if k=4 then ns else ns ++ xs.map Prod.fst,if k=4 then ts ++ xs.map Prod.snd else ts),r)∧r.map core=cs
 | [],_,_,_,_,_,h,_,_,_=>absurd rfl h
 | x :: xs,0,_,_,_,_,_,h,_,_=>by simp at h
 | [x],f+1,l,ns,ts,cs,_,_,hs,h=>by
  obtain ⟨r,h1,h2⟩:=uz (hs x (by simp)) h
  obtain ⟨r',h3,h4⟩:=cO h2
  refine ⟨r', ?_,h4⟩
  rw [elems,h1]
  simp only [ne_eq,not_true_eq_false,if_false]
  rw [h3]
  rfl
 | x :: y :: xs,f+1,l,ns,ts,cs,_,hf,hs,h=>by
  obtain ⟨r,h1,h2⟩:=uz (hs x (by simp)) h
  obtain ⟨r',h3,h4⟩:=cO h2
  have hn:=gW (m:= [93]) h2 (.inr (by decide))
  obtain ⟨r2,h5,h6⟩:=Am (y :: xs) f r' (if k=4 then ns else ns ++ [x.1]) (if k=4 then ts ++ [x.2] else ts) cs (by simp) (by simpa using hf) (fun z hz=>hs z (List.mem_cons_of_mem _ hz)) h4
  refine ⟨r2, ?_,h6⟩
  rw [elems,h1]
  simp only [ne_eq,not_true_eq_false,if_false]
  rw [hn]
  simp only
  rw [h3]
  simp only
  rw [h5]
  by_cases k4:k=4
  ·simp [k4]
  ·simp [k4]
theorem uF: ∀l:List (List C),(∀x∈l,1≤x.length)→l.length≤(eY l).length
 | [],_=>by simp [eY]
 | [a],h=>by simpa [eY] using h a (by simp)
 | a :: b :: r,h=>by
  have:=uF (b :: r) fun x hx=>h x (List.mem_cons_of_mem _ hx)
  have:=h a (by simp)
  simp only [eY,List.length_append,List.length_cons] at*
  omega
theorem ql {l:T} {cs:List C} (h:l.map core=cs):l.length=cs.length:=by rw [←h,List.length_map]
theorem Aq {k:Int} {l:List Int} (h:Cel.dD k l=0): ∀n∈l,k=1→n=0∨n=1:=fun n hn hk=>by
 have:=nI h n hn
 unfold Cel.aV at this
 by_cases h0:n=0
 ·exact .inl h0
 ·by_cases h1:n=1
  ·exact .inr h1
  ·rw [if_pos ⟨hk,h0,h1⟩] at this;cases this
def elemsOf (v:Cel.V):List (Int×L):=v.nums.map (fun n=>(n, [])) ++ v.texts.map (fun t=>(0,t))
theorem JQ (v:Cel.V):(kC v).map Prod.snd=(elemsOf v).map fun x=> [scT (v.kind - 4) x.1 x.2]:=by
 unfold kC elemsOf
 simp only [List.map_append,List.map_map,Function.comp_def]
theorem Aw {v:Cel.V} {l:T} {cs:List C} (hv:uy v) (h:l.map core=lu v ++ cs): ∃r,gy l=some (v,r)∧r.map core=cs:=by
 obtain ⟨p1,p2,p3,p4,p5,p6,p7,p8⟩:=Cel.jB hv.ck
 unfold Cel.Unused at p3
 simp only [not_or] at p3
 obtain ⟨u1,u2,u3,u4⟩:=p3
 obtain ⟨k,n,t,ns,ts⟩:=v
 simp only at p1 p2 p4 p5 p6 p7 p8 u1 u2 u3 u4
 unfold lu at h
 simp only at h
 unfold gy
 by_cases h4:k≤4
 ·rw [if_pos h4] at h
  have hns:ns= []:=Decidable.not_not.1 fun e=>u3 ⟨e, .inl (by omega)⟩
  have hts:ts= []:=Decidable.not_not.1 fun e=>u4 ⟨e,by omega⟩
  subst hns hts
  have hsc:Sc k n t:=⟨p1,h4,fun e=>Aq (k:=k) (l:= [n]) (by
    subst e
    rw [if_pos (by decide)] at p8
    unfold Cel.dD Cel.dD
    rw [p8];rfl) n (by simp) e,
   fun e=>Decidable.not_not.1 fun e'=>u2 ⟨e',e⟩,fun e=>Decidable.not_not.1 fun e'=>u1 ⟨e',by omega⟩⟩
  obtain ⟨r,h1,h2⟩:=uz hsc h
  rw [gW h (.inl uD),h1]
  exact ⟨r,rfl,h2⟩
 ·rw [if_neg h4] at h
  rw [if_neg (by omega)] at p8
  obtain ⟨r1,h1,h2⟩:=cO h
  obtain ⟨r2,h3,h5⟩:=cO h2
  obtain ⟨r3,h6,h7⟩:=jI h5
  have hk:=Ak (k:=k - 4) (by omega) (by omega)
  have ht:t= []:=Decidable.not_not.1 fun e=>u2 ⟨e,by omega⟩
  have hn:n=0:=Decidable.not_not.1 fun e=>u1 ⟨e,by omega⟩
  subst ht hn
  rw [h1]
  simp only
  rw [h3]
  simp only
  rw [h6]
  simp only
  rw [hk,if_neg (by omega),show k - 4+4=k by omega]
  rw [JQ] at h7
  replace h7:r3.map core=eY ((elemsOf ⟨k,0, [],ns,ts⟩).map fun x=> [scT (k - 4) x.1 x.2]) ++ [mk 93] ++ cs:=h7
  have hboth:k=8∧ns= []∨k≠8∧ts= []:=by
   by_cases h8:k=8
   ·exact .inl ⟨h8,Decidable.not_not.1 fun e=>u3 ⟨e, .inr h8⟩⟩
   ·exact .inr ⟨h8,Decidable.not_not.1 fun e=>u4 ⟨e,h8⟩⟩
  by_cases h0:elemsOf ⟨k,0, [],ns,ts⟩= []
  ·rw [h0] at h7
   obtain ⟨r4,h8,h9⟩:=cO h7
   unfold elemsOf at h0
   simp only [List.append_eq_nil_iff,List.map_eq_nil_iff] at h0
   obtain ⟨rfl,rfl⟩:=h0
   rw [h8]
   exact ⟨r4,rfl,h9⟩
  ·have hsc: ∀x∈elemsOf ⟨k,0, [],ns,ts⟩,Sc (k - 4) x.1 x.2:=fun x hx=>by
    unfold elemsOf at hx
    rcases List.mem_append.1 hx with hx | hx
    ·obtain ⟨y,hy,rfl⟩:=List.mem_map.1 hx
     refine ⟨by omega,by omega,Aq p8 y hy,fun _=>rfl,fun e=> ?_⟩
     rcases hboth with ⟨-,e'⟩ |⟨e',-⟩
     ·simp only at hy;rw [e'] at hy;cases hy
     ·omega
    ·obtain ⟨y,hy,rfl⟩:=List.mem_map.1 hx
     refine ⟨by omega,by omega,fun _=> .inl rfl,fun e=> ?_,fun _=>rfl⟩
     rcases hboth with ⟨e',-⟩ |⟨-,e'⟩
     ·omega
     ·simp only at hy;rw [e'] at hy;cases hy
   have hmk:mark [93] r3=none:=by
    obtain ⟨x,xs,hx⟩:=List.exists_cons_of_ne_nil h0
    rw [hx] at h7
    cases xs with
    | nil=>exact gW h7 (.inl uD)
    | cons y xs=>exact gW h7 (.inl uD)
   rw [hmk]
   simp only
   have hlen:=uF ((elemsOf ⟨k,0, [],ns,ts⟩).map fun x=> [scT (k - 4) x.1 x.2]) (fun x hx=>by obtain ⟨y,-,rfl⟩:=List.mem_map.1 hx;simp)
   have hl3:=ql h7
   rw [List.length_append,List.length_append] at hl3
   rw [List.length_map] at hlen
   obtain ⟨r4,h8,h9⟩:=Am (k:=k - 4) (elemsOf ⟨k,0, [],ns,ts⟩) (r3.length+1) r3 [] [] cs h0 (by omega) hsc (by rw [h7,List.append_assoc];rfl)
   rw [h8]
   refine ⟨r4, ?_,h9⟩
   simp only [Option.map_some,Option.some.injEq,Prod.mk.injEq,and_true,List.nil_append]
   rcases hboth with ⟨e,rfl⟩ |⟨e,rfl⟩
   ·rw [if_pos (by omega),if_pos (by omega)]
    simp [elemsOf,Function.comp_def]
   ·rw [if_neg (by omega),if_neg (by omega)]
    simp [elemsOf,Function.comp_def]
theorem Az: ∀(ps:List Gr.P) (f:Nat) (l:T) (acc:List Gr.P) (cs:List C),ps≠ []→ps.length≤f→(∀p∈ps,kD p)→
  l.map core=eY (ps.map iV) ++ mk 125 :: cs→ ∃r,jl f l acc=some (acc ++ ps,r)∧r.map core=cs
 | [],_,_,_,_,h,_,_,_=>absurd rfl h
 | x :: xs,0,_,_,_,_,h,_,_=>by simp at h
 | [p],f+1,l,acc,cs,_,_,hp,h=>by
  have h':l.map core=aU p.key :: mk 58 ::(lu p.val ++ mk 125 :: cs):=by simpa [eY,iV] using h
  obtain ⟨r1,h1,h2⟩:=jI h'
  obtain ⟨r2,h3,h4⟩:=cO h2
  obtain ⟨r3,h5,h6⟩:=Aw (hp p (by simp)).val h4
  obtain ⟨r4,h7,h8⟩:=cO h6
  refine ⟨r4, ?_,h8⟩
  simp only [jl,h1,h3,h5,h7]
 | p :: q :: ps,f+1,l,acc,cs,_,hf,hp,h=>by
  have h':l.map core=aU p.key :: mk 58 ::(lu p.val ++ mk 44 ::(eY ((q :: ps).map iV) ++ mk 125 :: cs)):=by simpa [eY,iV] using h
  obtain ⟨r1,h1,h2⟩:=jI h'
  obtain ⟨r2,h3,h4⟩:=cO h2
  obtain ⟨r3,h5,h6⟩:=Aw (hp p (by simp)).val h4
  obtain ⟨r4,h7,h8⟩:=cO h6
  have hn:=gW (m:= [125]) h6 (.inr (by decide))
  obtain ⟨r5,h9,h10⟩:=Az (q :: ps) f r4 (acc ++ [p]) cs (by simp) (by simpa using hf) (fun z hz=>hp z (List.mem_cons_of_mem _ hz)) h8
  refine ⟨r5, ?_,h10⟩
  simp only [jl,h1,h3,h5,h7,hn]
  rw [show (⟨p.key,p.val⟩:Gr.P)=p from rfl,h9,List.append_assoc]
  rfl
theorem AA {ps:List Gr.P} {l:T} {c:C} {cs:List C} (hp: ∀p∈ps,kD p) (h:l.map core=iJ ps ++ c :: cs) (hc:c.1≠5∨c.2.1≠ [123]): ∃r,fO l=some (ps,r)∧r.map core=c :: cs:=by
 unfold iJ at h
 unfold fO
 by_cases h0:ps= []
 ·subst h0
  rw [if_pos rfl] at h
  rw [gW h hc]
  exact ⟨l,rfl,h⟩
 ·rw [if_neg h0] at h
  obtain ⟨r1,h1,h2⟩:=cO h
  replace h2:r1.map core=eY (ps.map iV) ++ [mk 125] ++(c :: cs):=h2
  rw [List.append_assoc] at h2
  have hn:mark [125] r1=none:=by
   obtain ⟨x,xs,hx⟩:=List.exists_cons_of_ne_nil h0
   subst hx
   cases xs with
   | nil=>exact gW h2 (.inl (show (1:Nat)≠5 by decide))
   | cons y xs=>exact gW h2 (.inl (show (1:Nat)≠5 by decide))
  have hlen:=uF (ps.map iV) (fun x hx=>by obtain ⟨y,-,rfl⟩:=List.mem_map.1 hx;simp [iV])
  have hl:=ql h2
  rw [List.length_append] at hl
  rw [List.length_map] at hlen
  obtain ⟨r2,h3,h4⟩:=Az ps (r1.length+1) r1 [] (c :: cs) h0 (by omega) hp h2
  rw [h1]
  simp only
  rw [hn]
  simp only
  rw [h3]
  exact ⟨r2,rfl,h4⟩
theorem AB: ∀(ls:List L) (f:Nat) (l:T) (acc:List L) (c:C) (cs:List C),ls.length<f→(c.1≠5∨c.2.1≠ [58])→
  l.map core=ls.flatMap (fun l=> [mk 58,aU l]) ++ c :: cs→ ∃r,gU f l acc=some (acc ++ ls,r)∧r.map core=c :: cs
 | _,0,_,_,_,_,h,_,_=>by omega
 | [],f+1,l,acc,c,cs,_,hc,h=>by
  rw [gU,gW h hc]
  exact ⟨l,by rw [List.append_nil],h⟩
 | x :: ls,f+1,l,acc,c,cs,hf,hc,h=>by
  obtain ⟨r1,h1,h2⟩:=cO h
  obtain ⟨r2,h3,h4⟩:=jI h2
  obtain ⟨r3,h5,h6⟩:=AB ls f r2 (acc ++ [x]) c cs (by simp only [List.length_cons] at hf;omega) hc h4
  refine ⟨r3, ?_,h6⟩
  simp only [gU,h1,h3]
  rw [h5,List.append_assoc]
  rfl
theorem JR (ps:List Gr.P) (c:C) (cs:List C): ∃d ds,iJ ps ++ c :: cs=d :: ds∧(ps= []→d=c)∧(ps≠ []→d=mk 123):=by
 unfold iJ
 by_cases h:ps= []
 ·exact ⟨c,cs,by rw [if_pos h];rfl,fun _=>rfl,fun e=>absurd h e⟩
 ·exact ⟨mk 123,_,by rw [if_neg h];rfl,fun e=>absurd e h,fun _=>rfl⟩
def jJ (n:Gr.N):Pat:=⟨false,110 :: Lib.itoa n.id, [], [],n.labels,n.props⟩
def jK (r:Gr.R):Pat:=⟨true,110 :: Lib.itoa r.src,114 :: Lib.itoa r.id,110 :: Lib.itoa r.dst, [r.type],r.props⟩
theorem flat2 (ls:List L):(ls.flatMap (fun l=> [mk 58,aU l])).length=2*ls.length:=by
 induction ls with
 | nil=>rfl
 | cons a r ih=>rw [List.flatMap_cons,List.length_append,ih,List.length_cons];simp;omega
theorem JU {n:Gr.N} {l:T} {cs:List C} (hn:nP n) (h:CR :: l.map core=kE n ++ cs): ∃r,gV l=some (jJ n,r)∧r.map core=mk 59 :: cs:=by
 have h':l.map core=mk 40 :: aU (110 :: Lib.itoa n.id) ::(n.labels.flatMap (fun l=> [mk 58,aU l]) ++(iJ n.props ++ mk 41 :: mk 59 :: cs)):=by
  have:CR :: l.map core=CR :: mk 40 :: aU (110 :: Lib.itoa n.id) ::(n.labels.flatMap (fun l=> [mk 58,aU l]) ++(iJ n.props ++ mk 41 :: mk 59 :: cs)):=by rw [h];simp [kE]
  exact (List.cons.inj this).2
 obtain ⟨r1,h1,h2⟩:=cO h'
 obtain ⟨r2,h3,h4⟩:=jI h2
 obtain ⟨d,ds,e,d1,d2⟩:=JR n.props (mk 41) (mk 59 :: cs)
 have hd:d.1≠5∨d.2.1≠ [58]:=by
  by_cases h0:n.props= []
  ·rw [d1 h0];exact .inr (by decide)
  ·rw [d2 h0];exact .inr (by decide)
 have hl:=ql h4
 rw [List.length_append,flat2] at hl
 obtain ⟨r3,h5,h6⟩:=AB n.labels (r2.length+1) r2 [] d ds (by omega) hd (by rw [h4,e])
 rw [←e] at h6
 obtain ⟨r4,h7,h8⟩:=AA hn.props h6 (.inr (by decide))
 obtain ⟨r5,h9,h10⟩:=cO h8
 refine ⟨r5, ?_,h10⟩
 unfold gV
 simp only [h1,h3,h5,h7,h9,List.nil_append]
 have hno:mark [45] r5=none:=gW h10 (.inr (by decide))
 split
 ·rfl
 ·rw [hno];rfl
theorem JV {n:Gr.R} {l:T} {cs:List C} (hn:nR n) (h:CR :: l.map core=kF n ++ cs): ∃r,gV l=some (jK n,r)∧r.map core=mk 59 :: cs:=by
 have h':l.map core=mk 40 :: aU (110 :: Lib.itoa n.src) :: mk 41 :: mk 45 :: mk 91 :: aU (114 :: Lib.itoa n.id) :: mk 58 :: aU n.type ::(iJ n.props ++ mk 93 ::(5, [45,62],0) :: mk 40 :: aU (110 :: Lib.itoa n.dst) :: mk 41 :: mk 59 :: cs):=by
  have:CR :: l.map core=CR :: mk 40 :: aU (110 :: Lib.itoa n.src) :: mk 41 :: mk 45 :: mk 91 :: aU (114 :: Lib.itoa n.id) :: mk 58 :: aU n.type ::(iJ n.props ++ mk 93 ::(5, [45,62],0) :: mk 40 :: aU (110 :: Lib.itoa n.dst) :: mk 41 :: mk 59 :: cs):=by rw [h];simp [kF]
  exact (List.cons.inj this).2
 obtain ⟨r1,h1,h2⟩:=cO h'
 obtain ⟨r2,h3,h4⟩:=jI h2
 have hlb:gU (r2.length+1) r2 []=some ([],r2):=by rw [gU,gW h4 (.inr (by decide))]
 have hpr:fO r2=some ([],r2):=by unfold fO;rw [gW h4 (.inr (by decide))]
 have hnb:mark [123] r2=none:=gW h4 (.inr (by decide))
 obtain ⟨r3,h5,h6⟩:=cO h4
 obtain ⟨r4,h7,h8⟩:=cO h6
 obtain ⟨r5,h9,h10⟩:=cO h8
 obtain ⟨r6,h11,h12⟩:=jI h10
 obtain ⟨r7,h13,h14⟩:=cO h12
 obtain ⟨r8,h15,h16⟩:=jI h14
 obtain ⟨r9,h17,h18⟩:=AA hn.props h16 (.inr (by decide))
 obtain ⟨r10,h19,h20⟩:=cO h18
 obtain ⟨r11,h21,h22⟩:=cO h20
 obtain ⟨r12,h23,h24⟩:=cO h22
 obtain ⟨r13,h25,h26⟩:=jI h24
 obtain ⟨r14,h27,h28⟩:=cO h26
 refine ⟨r14, ?_,h28⟩
 unfold gV
 simp only [h1,h3,hlb,hpr,h5,hnb,Option.isSome_none,ne_eq,not_true_eq_false,Bool.false_eq_true,or_self,if_false,h7]
 unfold nK
 simp only [h9,h11,h13,h15,h17,h19,h21,h23,h25,h27,Option.map_some]
 rfl
theorem JW {l:T} {p:Pat} {r:T} {cs:List C} {f:Nat} (acc:List Pat) (h:gV l=some (p,r)) (hr:r.map core=mk 59 :: cs): ∃r',pats (f+1) l acc=some (acc ++ [p],r')∧r'.map core=cs:=by
 obtain ⟨r',h1,h2⟩:=cO hr
 exact ⟨r',by simp only [pats,h,h1],h2⟩
theorem AO {l:T} {p:Pat} {f:Nat} {acc:List Pat} {X cs:List C} (h:l.map core=CR :: X ++ cs) (hp: ∀l':T,CR :: l'.map core=CR :: X ++ cs→ ∃r,gV l'=some (p,r)∧r.map core=mk 59 :: cs):
  ∃r,script (f+1) l acc=script f r (acc ++ [p])∧r.map core=cs:=by
 cases l with
 | nil=>cases h
 | cons t r=>
  rw [List.map_cons,List.cons_append,List.cons.injEq] at h
  obtain ⟨h1,h2⟩:=h
  obtain ⟨r1,h3,h4⟩:=hp r (by rw [h2];rfl)
  obtain ⟨r2,h5,h6⟩:=JW (f:=r.length) acc h3 h4
  refine ⟨r2, ?_,h6⟩
  unfold core CR aU at h1
  rw [Prod.mk.injEq,Prod.mk.injEq] at h1
  rw [script,if_pos ⟨h1.1,h1.2.1⟩,h5]
theorem AP: ∀(ns:List Gr.N) (f:Nat) (l:T) (acc:List Pat) (cs:List C),(∀n∈ns,nP n)→l.map core=ns.flatMap kE ++ cs→
  ∃r,script (f+ns.length) l acc=script f r (acc ++ ns.map jJ)∧r.map core=cs
 | [],f,l,acc,cs,_,h=>⟨l,by rw [List.map_nil,List.append_nil];rfl,h⟩
 | n :: ns,f,l,acc,cs,hn,h=>by
  rw [List.flatMap_cons,List.append_assoc] at h
  obtain ⟨r1,h1,h2⟩:=AO (f:=f+ns.length) (acc:=acc) (p:=jJ n) h (fun l' h'=>JU (hn n (by simp)) h')
  obtain ⟨r2,h3,h4⟩:=AP ns f r1 (acc ++ [jJ n]) cs (fun x hx=>hn x (List.mem_cons_of_mem _ hx)) h2
  exact ⟨r2,by rw [List.length_cons,←Nat.add_assoc,h1,h3,List.append_assoc];rfl,h4⟩
theorem AQ: ∀(ns:List Gr.R) (f:Nat) (l:T) (acc:List Pat) (cs:List C),(∀n∈ns,nR n)→l.map core=ns.flatMap kF ++ cs→
  ∃r,script (f+ns.length) l acc=script f r (acc ++ ns.map jK)∧r.map core=cs
 | [],f,l,acc,cs,_,h=>⟨l,by rw [List.map_nil,List.append_nil];rfl,h⟩
 | n :: ns,f,l,acc,cs,hn,h=>by
  rw [List.flatMap_cons,List.append_assoc] at h
  obtain ⟨r1,h1,h2⟩:=AO (f:=f+ns.length) (acc:=acc) (p:=jK n) h (fun l' h'=>JV (hn n (by simp)) h')
  obtain ⟨r2,h3,h4⟩:=AQ ns f r1 (acc ++ [jK n]) cs (fun x hx=>hn x (List.mem_cons_of_mem _ hx)) h2
  exact ⟨r2,by rw [List.length_cons,←Nat.add_assoc,h1,h3,List.append_assoc];rfl,h4⟩
end Go.Proofs.YtoofbflplhbpbaaGreatDoor.Cy
