/- Contracts and plain laws,part 18. -/
import Derived.Test.YtanlehkalkafdaaGreatDoorUT17
set_option linter.all false
namespace Go.Proofs.YtanlehkalkafdaaGreatDoor.Cy
open Go
theorem mark_yes {m:L} {n:Int} {l:T} {cs:List C} (h:l.map core=(5,m,n) :: cs): ∃r,mark m l=some r/\r.map core=cs:=by
 cases l with
 | nil=>cases h
 | cons t r=>
  rw [mJ,oM] at h;obtain ⟨h1,h2⟩:=h;unfold core at h1;rw [nH,nH] at h1
  exact ⟨r,by rw [mark,lu ⟨h1.1,h1.2.1⟩],h2⟩
theorem mark_no {m:L} {c:C} {l:T} {cs:List C} (h:l.map core=c :: cs) (hne:c.1≠5\/c.2.1≠m):mark m l=none:=by
 cases l with
 | nil=>rfl
 | cons t r=>
  rw [mJ,oM] at h;rw [mark,kU];rintro ⟨h1,h2⟩;rw [<-h.1] at hne
  exact hne.elim (fun x=>x h1) (fun x=>x h2)
theorem word_yes {w:L} {n:Int} {l:T} {cs:List C} (h:l.map core=(1,w,n) :: cs): ∃r,wordP l=some (w,r)/\r.map core=cs:=by
 cases l with
 | nil=>cases h
 | cons t r=>
  rw [mJ,oM] at h;obtain ⟨h1,h2⟩:=h;unfold core at h1;rw [nH,nH] at h1
  exact ⟨r,by rw [wordP,lu h1.1,h1.2.1],h2⟩
structure Sc (k n:Int) (t:L):Prop where
 lo:1<=k
 hi:k<=4
 b:k=1->n=0\/n=1
 t:k≠4->t= []
 n:k=4->n=0
theorem scalar_yes {k n:Int} {t:L} {l:T} {cs:List C} (hs:Sc k n t) (h:l.map core=scT k n t :: cs): ∃r,scalarP l=some ((k,n,t),r)/\r.map core=cs:=by
 cases l with
 | nil=>cases h
 | cons u r=>
  rw [mJ,oM] at h;obtain ⟨h1,h2⟩:=h;refine ⟨r, ?_,h2⟩;unfold core scT at h1;rw [scalarP]
  by_cases k1:k=1
  ·subst k1
   rw [lu rfl,nH,nH] at h1;rw [lu h1.1,h1.2.1,hs.t (by decide)]
   rcases hs.b rfl with rfl | rfl
   ·rfl
   rfl
  rw [kU k1] at h1;by_cases k2:k=2
  ·subst k2
   rw [lu rfl,nH,nH] at h1;rw [kU (by omega),lu h1.1,h1.2.2,hs.t (by decide)]
  rw [kU k2] at h1;by_cases k3:k=3
  ·subst k3
   rw [lu rfl,nH,nH] at h1
   rw [kU (by omega),kU (by omega),lu h1.1,h1.2.2,hs.t (by decide)]
  rw [kU k3,nH,nH] at h1;have:=hs.lo;have:=hs.hi;obtain rfl:k=4:=by omega
  rw [kU (by omega),kU (by omega),kU (by omega),lu h1.1,h1.2.1,hs.n rfl]
theorem scT_kind {k n:Int} {t:L}:(scT k n t).1≠5:=by
 unfold scT
 repeat' split
 all_goals simp
theorem kindOf_word {k:Int} (h1:1<=k) (h4:k<=4):kindOf (word k)=k:=by
 have:k=1\/k=2\/k=3\/k=4:=by omega
 rcases this with rfl | rfl | rfl | rfl<;> decide
theorem elems_yes {k:Int}: ∀(xs:List (Int×L)) (f:Nat) (l:T) (ns:List Int) (ts:List L) (cs:List C),xs≠ []->xs.length<=f->(∀x∈xs,Sc k x.1 x.2)->
  l.map core=joinT (xs.map fun x=> [scT k x.1 x.2]) ++ mk 93 :: cs->
  ∃r,elems k f l ns ts=some ((if k=4 then ns else ns ++ xs.map Prod.fst,if k=4 then ts ++ xs.map Prod.snd else ts),r)/\r.map core=cs
 | [],_,_,_,_,_,h,_,_,_=>absurd rfl h
 | x :: xs,0,_,_,_,_,_,h,_,_=>by simp at h
 | [x],f+1,l,ns,ts,cs,_,_,hs,h=>by
  obtain ⟨r,h1,h2⟩:=scalar_yes (hs x (by simp)) h
  obtain ⟨r',h3,h4⟩:=mark_yes h2;refine ⟨r', ?_,h4⟩;rw [elems,h1];simp only [ne_eq,tY,rY]
  rw [h3];rfl
 | x :: y :: xs,f+1,l,ns,ts,cs,_,hf,hs,h=>by
  obtain ⟨r,h1,h2⟩:=scalar_yes (hs x (by simp)) h
  obtain ⟨r',h3,h4⟩:=mark_yes h2;have hn:=mark_no (m:= [93]) h2 (.inr (by decide))
  obtain ⟨r2,h5,h6⟩:=elems_yes (y :: xs) f r' (if k=4 then ns else ns ++ [x.1]) (if k=4 then ts ++ [x.2] else ts) cs (by simp) (by simpa using hf) (fun z hz=>hs z (mg _ hz)) h4
  refine ⟨r2, ?_,h6⟩;rw [elems,h1];simp only [ne_eq,tY,rY];rw [hn];simp only;rw [h3]
  simp only;rw [h5];by_cases k4:k=4
  ·simp [k4]
  simp [k4]
theorem joinT_len: ∀l:List (List C),(∀x∈l,1<=x.length)->l.length<=(joinT l).length
 | [],_=>by simp [joinT]
 | [a],h=>by simpa [joinT] using h a (by simp)
 | a :: b :: r,h=>by
  have:=joinT_len (b :: r) fun x hx=>h x (mg _ hx)
  have:=h a (by simp)
  simp only [joinT,kW,lF] at*;omega
theorem map_len {l:T} {cs:List C} (h:l.map core=cs):l.length=cs.length:=by rw [<-h,lU]
theorem nums_bool {k:Int} {l:List Int} (h:Cel.numsWrong k l=0): ∀n∈l,k=1->n=0\/n=1:=fun n hn hk=>by
 have:=numsWrong_all h n hn;unfold Cel.numWrong at this;by_cases h0:n=0
 ·exact .inl h0
 by_cases h1:n=1
 ·exact .inr h1
 rw [lu ⟨hk,h0,h1⟩] at this;cases this
def elemsOf (v:Cel.V):List (Int×L):=v.nums.map (fun n=>(n, [])) ++ v.texts.map (fun t=>(0,t))
theorem partsP_elems (v:Cel.V):(partsP v).map Prod.snd=(elemsOf v).map fun x=> [scT (v.kind - 4) x.1 x.2]:=by
 unfold partsP elemsOf;simp only [mV,oQ,ru]
theorem lit_yes {v:Cel.V} {l:T} {cs:List C} (hv:VGood v) (h:l.map core=litT v ++ cs): ∃r,litP l=some (v,r)/\r.map core=cs:=by
 obtain ⟨p1,p2,p3,p4,p5,p6,p7,p8⟩:=Cel.check_parts hv.ck;unfold Cel.Unused at p3
 simp only [sG] at p3;obtain ⟨u1,u2,u3,u4⟩:=p3;obtain ⟨k,n,t,ns,ts⟩:=v
 simp only at p1 p2 p4 p5 p6 p7 p8 u1 u2 u3 u4;unfold litT at h;simp only at h;unfold litP
 by_cases h4:k<=4
 ·rw [lu h4] at h
  have hns:ns= []:=Decidable.not_not.1 fun e=>u3 ⟨e, .inl (by omega)⟩
  have hts:ts= []:=Decidable.not_not.1 fun e=>u4 ⟨e,by omega⟩
  subst hns hts
  have hsc:Sc k n t:=⟨p1,h4,fun e=>nums_bool (k:=k) (l:= [n]) (by
    subst e;rw [lu (by decide)] at p8
    unfold Cel.numsWrong Cel.numsWrong
    rw [p8];rfl) n (by simp) e,
   fun e=>Decidable.not_not.1 fun e'=>u2 ⟨e',e⟩,fun e=>Decidable.not_not.1 fun e'=>u1 ⟨e',by omega⟩⟩
  obtain ⟨r,h1,h2⟩:=scalar_yes hsc h;rw [mark_no h (.inl scT_kind),h1];exact ⟨r,rfl,h2⟩
 rw [kU h4] at h;rw [kU (by omega)] at p8
 obtain ⟨r1,h1,h2⟩:=mark_yes h;obtain ⟨r2,h3,h5⟩:=mark_yes h2
 obtain ⟨r3,h6,h7⟩:=word_yes h5;have hk:=kindOf_word (k:=k - 4) (by omega) (by omega)
 have ht:t= []:=Decidable.not_not.1 fun e=>u2 ⟨e,by omega⟩
 have hn:n=0:=Decidable.not_not.1 fun e=>u1 ⟨e,by omega⟩
 subst ht hn;rw [h1];simp only;rw [h3];simp only;rw [h6];simp only
 rw [hk,kU (by omega),show k - 4+4=k by omega]
 rw [partsP_elems] at h7
 replace h7:r3.map core=joinT ((elemsOf ⟨k,0, [],ns,ts⟩).map fun x=> [scT (k - 4) x.1 x.2]) ++ [mk 93] ++ cs:=h7
 have hboth:k=8/\ns= []\/k≠8/\ts= []:=by
  by_cases h8:k=8
  ·exact .inl ⟨h8,Decidable.not_not.1 fun e=>u3 ⟨e, .inr h8⟩⟩
  exact .inr ⟨h8,Decidable.not_not.1 fun e=>u4 ⟨e,h8⟩⟩
 by_cases h0:elemsOf ⟨k,0, [],ns,ts⟩= []
 ·rw [h0] at h7
  obtain ⟨r4,h8,h9⟩:=mark_yes h7;unfold elemsOf at h0
  simp only [List.append_eq_nil_iff,sV] at h0;obtain ⟨rfl,rfl⟩:=h0;rw [h8]
  exact ⟨r4,rfl,h9⟩
 have hsc: ∀x∈elemsOf ⟨k,0, [],ns,ts⟩,Sc (k - 4) x.1 x.2:=fun x hx=>by
  unfold elemsOf at hx
  rcases lW.1 hx with hx | hx
  ·obtain ⟨y,hy,rfl⟩:=nR.1 hx
   refine ⟨by omega,by omega,nums_bool p8 y hy,fun _=>rfl,fun e=> ?_⟩
   rcases hboth with ⟨-,e'⟩ |⟨e',-⟩
   ·simp only at hy;rw [e'] at hy;cases hy
   omega
  obtain ⟨y,hy,rfl⟩:=nR.1 hx
  refine ⟨by omega,by omega,fun _=> .inl rfl,fun e=> ?_,fun _=>rfl⟩
  rcases hboth with ⟨e',-⟩ |⟨-,e'⟩
  ·omega
  simp only at hy;rw [e'] at hy;cases hy
 have hmk:mark [93] r3=none:=by
  obtain ⟨x,xs,hx⟩:=vg h0;rw [hx] at h7;cases xs with
  | nil=>exact mark_no h7 (.inl scT_kind)
  | cons y xs=>exact mark_no h7 (.inl scT_kind)
 rw [hmk];simp only
 have hlen:=joinT_len ((elemsOf ⟨k,0, [],ns,ts⟩).map fun x=> [scT (k - 4) x.1 x.2]) (fun x hx=>by obtain ⟨y,-,rfl⟩:=nR.1 hx;simp)
 have hl3:=map_len h7;rw [kW,kW] at hl3;rw [lU] at hlen
 obtain ⟨r4,h8,h9⟩:=elems_yes (k:=k - 4) (elemsOf ⟨k,0, [],ns,ts⟩) (r3.length+1) r3 [] [] cs h0 (by omega) hsc (by rw [h7,lX];rfl)
 rw [h8];refine ⟨r4, ?_,h9⟩;simp only [nU,nD,nH,rJ,mP]
 rcases hboth with ⟨e,rfl⟩ |⟨e,rfl⟩
 ·rw [lu (by omega),lu (by omega)]
  simp [elemsOf,ru]
 rw [kU (by omega),kU (by omega)]
 simp [elemsOf,ru]
theorem propsGo_yes: ∀(ps:List Gr.P) (f:Nat) (l:T) (acc:List Gr.P) (cs:List C),ps≠ []->ps.length<=f->(∀p∈ps,PGood p)->
  l.map core=joinT (ps.map propT) ++ mk 125 :: cs-> ∃r,propsGo f l acc=some (acc ++ ps,r)/\r.map core=cs
 | [],_,_,_,_,h,_,_,_=>absurd rfl h
 | x :: xs,0,_,_,_,_,h,_,_=>by simp at h
 | [p],f+1,l,acc,cs,_,_,hp,h=>by
  have h':l.map core=wordC p.key :: mk 58 ::(litT p.val ++ mk 125 :: cs):=by simpa [joinT,propT] using h
  obtain ⟨r1,h1,h2⟩:=word_yes h';obtain ⟨r2,h3,h4⟩:=mark_yes h2
  obtain ⟨r3,h5,h6⟩:=lit_yes (hp p (by simp)).val h4
  obtain ⟨r4,h7,h8⟩:=mark_yes h6;refine ⟨r4, ?_,h8⟩;simp only [propsGo,h1,h3,h5,h7]
 | p :: q :: ps,f+1,l,acc,cs,_,hf,hp,h=>by
  have h':l.map core=wordC p.key :: mk 58 ::(litT p.val ++ mk 44 ::(joinT ((q :: ps).map propT) ++ mk 125 :: cs)):=by simpa [joinT,propT] using h
  obtain ⟨r1,h1,h2⟩:=word_yes h';obtain ⟨r2,h3,h4⟩:=mark_yes h2
  obtain ⟨r3,h5,h6⟩:=lit_yes (hp p (by simp)).val h4
  obtain ⟨r4,h7,h8⟩:=mark_yes h6;have hn:=mark_no (m:= [125]) h6 (.inr (by decide))
  obtain ⟨r5,h9,h10⟩:=propsGo_yes (q :: ps) f r4 (acc ++ [p]) cs (by simp) (by simpa using hf) (fun z hz=>hp z (mg _ hz)) h8
  refine ⟨r5, ?_,h10⟩;simp only [propsGo,h1,h3,h5,h7,hn]
  rw [show (⟨p.key,p.val⟩:Gr.P)=p from rfl,h9,lX]
  rfl
theorem props_yes {ps:List Gr.P} {l:T} {c:C} {cs:List C} (hp: ∀p∈ps,PGood p) (h:l.map core=mapT ps ++ c :: cs) (hc:c.1≠5\/c.2.1≠ [123]): ∃r,propsP l=some (ps,r)/\r.map core=c :: cs:=by
 unfold mapT at h;unfold propsP;by_cases h0:ps= []
 ·subst h0
  rw [lu rfl] at h;rw [mark_no h hc];exact ⟨l,rfl,h⟩
 rw [kU h0] at h;obtain ⟨r1,h1,h2⟩:=mark_yes h
 replace h2:r1.map core=joinT (ps.map propT) ++ [mk 125] ++(c :: cs):=h2
 rw [lX] at h2
 have hn:mark [125] r1=none:=by
  obtain ⟨x,xs,hx⟩:=vg h0;subst hx;cases xs with
  | nil=>exact mark_no h2 (.inl (show (1:Nat)≠5 by decide))
  | cons y xs=>exact mark_no h2 (.inl (show (1:Nat)≠5 by decide))
 have hlen:=joinT_len (ps.map propT) (fun x hx=>by obtain ⟨y,-,rfl⟩:=nR.1 hx;simp [propT])
 have hl:=map_len h2;rw [kW] at hl;rw [lU] at hlen
 obtain ⟨r2,h3,h4⟩:=propsGo_yes ps (r1.length+1) r1 [] (c :: cs) h0 (by omega) hp h2
 rw [h1];simp only;rw [hn];simp only;rw [h3];exact ⟨r2,rfl,h4⟩
theorem labels_yes: ∀(ls:List L) (f:Nat) (l:T) (acc:List L) (c:C) (cs:List C),ls.length<f->(c.1≠5\/c.2.1≠ [58])->
  l.map core=ls.flatMap (fun l=> [mk 58,wordC l]) ++ c :: cs-> ∃r,labelsP f l acc=some (acc ++ ls,r)/\r.map core=c :: cs
 | _,0,_,_,_,_,h,_,_=>by omega
 | [],f+1,l,acc,c,cs,_,hc,h=>by
  rw [labelsP,mark_no h hc];exact ⟨l,by rw [mG],h⟩
 | x :: ls,f+1,l,acc,c,cs,hf,hc,h=>by
  obtain ⟨r1,h1,h2⟩:=mark_yes h;obtain ⟨r2,h3,h4⟩:=word_yes h2
  obtain ⟨r3,h5,h6⟩:=labels_yes ls f r2 (acc ++ [x]) c cs (by simp only [lF] at hf;omega) hc h4
  refine ⟨r3, ?_,h6⟩;simp only [labelsP,h1,h3];rw [h5,lX];rfl
theorem mapT_head (ps:List Gr.P) (c:C) (cs:List C): ∃d ds,mapT ps ++ c :: cs=d :: ds/\(ps= []->d=c)/\(ps≠ []->d=mk 123):=by
 unfold mapT;by_cases h:ps= []
 ·exact ⟨c,cs,by rw [lu h];rfl,fun _=>rfl,fun e=>absurd h e⟩
 exact ⟨mk 123,_,by rw [kU h];rfl,fun e=>absurd e h,fun _=>rfl⟩
def nodeP (n:Gr.N):Pat:=⟨false,110 :: Lib.itoa n.id, [], [],n.labels,n.props⟩
def relPt (r:Gr.R):Pat:=⟨true,110 :: Lib.itoa r.src,114 :: Lib.itoa r.id,110 :: Lib.itoa r.dst, [r.type],r.props⟩
theorem flat2 (ls:List L):(ls.flatMap (fun l=> [mk 58,wordC l])).length=2*ls.length:=by
 induction ls with
 | nil=>rfl
 | cons a r ih=>rw [ny,kW,ih,lF];simp;omega
theorem node_yes {n:Gr.N} {l:T} {cs:List C} (hn:NGood n) (h:CR :: l.map core=nodeT n ++ cs): ∃r,patP l=some (nodeP n,r)/\r.map core=mk 59 :: cs:=by
 have h':l.map core=mk 40 :: wordC (110 :: Lib.itoa n.id) ::(n.labels.flatMap (fun l=> [mk 58,wordC l]) ++(mapT n.props ++ mk 41 :: mk 59 :: cs)):=by
  have:CR :: l.map core=CR :: mk 40 :: wordC (110 :: Lib.itoa n.id) ::(n.labels.flatMap (fun l=> [mk 58,wordC l]) ++(mapT n.props ++ mk 41 :: mk 59 :: cs)):=by rw [h];simp [nodeT]
  exact (vN this).2
 obtain ⟨r1,h1,h2⟩:=mark_yes h';obtain ⟨r2,h3,h4⟩:=word_yes h2
 obtain ⟨d,ds,e,d1,d2⟩:=mapT_head n.props (mk 41) (mk 59 :: cs)
 have hd:d.1≠5\/d.2.1≠ [58]:=by
  by_cases h0:n.props= []
  ·rw [d1 h0];exact .inr (by decide)
  rw [d2 h0];exact .inr (by decide)
 have hl:=map_len h4;rw [kW,flat2] at hl
 obtain ⟨r3,h5,h6⟩:=labels_yes n.labels (r2.length+1) r2 [] d ds (by omega) hd (by rw [h4,e])
 rw [<-e] at h6;obtain ⟨r4,h7,h8⟩:=props_yes hn.props h6 (.inr (by decide))
 obtain ⟨r5,h9,h10⟩:=mark_yes h8;refine ⟨r5, ?_,h10⟩;unfold patP
 simp only [h1,h3,h5,h7,h9,mP];have hno:mark [45] r5=none:=mark_no h10 (.inr (by decide))
 split
 ·rfl
 rw [hno];rfl
theorem rel_yes {n:Gr.R} {l:T} {cs:List C} (hn:RGood n) (h:CR :: l.map core=relT n ++ cs): ∃r,patP l=some (relPt n,r)/\r.map core=mk 59 :: cs:=by
 have h':l.map core=mk 40 :: wordC (110 :: Lib.itoa n.src) :: mk 41 :: mk 45 :: mk 91 :: wordC (114 :: Lib.itoa n.id) :: mk 58 :: wordC n.type ::(mapT n.props ++ mk 93 ::(5, [45,62],0) :: mk 40 :: wordC (110 :: Lib.itoa n.dst) :: mk 41 :: mk 59 :: cs):=by
  have:CR :: l.map core=CR :: mk 40 :: wordC (110 :: Lib.itoa n.src) :: mk 41 :: mk 45 :: mk 91 :: wordC (114 :: Lib.itoa n.id) :: mk 58 :: wordC n.type ::(mapT n.props ++ mk 93 ::(5, [45,62],0) :: mk 40 :: wordC (110 :: Lib.itoa n.dst) :: mk 41 :: mk 59 :: cs):=by rw [h];simp [relT]
  exact (vN this).2
 obtain ⟨r1,h1,h2⟩:=mark_yes h';obtain ⟨r2,h3,h4⟩:=word_yes h2
 have hlb:labelsP (r2.length+1) r2 []=some ([],r2):=by rw [labelsP,mark_no h4 (.inr (by decide))]
 have hpr:propsP r2=some ([],r2):=by unfold propsP;rw [mark_no h4 (.inr (by decide))]
 have hnb:mark [123] r2=none:=mark_no h4 (.inr (by decide))
 obtain ⟨r3,h5,h6⟩:=mark_yes h4;obtain ⟨r4,h7,h8⟩:=mark_yes h6
 obtain ⟨r5,h9,h10⟩:=mark_yes h8;obtain ⟨r6,h11,h12⟩:=word_yes h10
 obtain ⟨r7,h13,h14⟩:=mark_yes h12;obtain ⟨r8,h15,h16⟩:=word_yes h14
 obtain ⟨r9,h17,h18⟩:=props_yes hn.props h16 (.inr (by decide))
 obtain ⟨r10,h19,h20⟩:=mark_yes h18;obtain ⟨r11,h21,h22⟩:=mark_yes h20
 obtain ⟨r12,h23,h24⟩:=mark_yes h22;obtain ⟨r13,h25,h26⟩:=word_yes h24
 obtain ⟨r14,h27,h28⟩:=mark_yes h26;refine ⟨r14, ?_,h28⟩;unfold patP
 simp only [h1,h3,hlb,hpr,h5,hnb,Option.isSome_none,ne_eq,tY,qo,or_self,rY,h7];unfold relP
 simp only [h9,h11,h13,h15,h17,h19,h21,h23,h25,h27,nU];rfl
theorem pats_one {l:T} {p:Pat} {r:T} {cs:List C} {f:Nat} (acc:List Pat) (h:patP l=some (p,r)) (hr:r.map core=mk 59 :: cs): ∃r',pats (f+1) l acc=some (acc ++ [p],r')/\r'.map core=cs:=by
 obtain ⟨r',h1,h2⟩:=mark_yes hr;exact ⟨r',by simp only [pats,h,h1],h2⟩
theorem script_step {l:T} {p:Pat} {f:Nat} {acc:List Pat} {X cs:List C} (h:l.map core=CR :: X ++ cs) (hp: ∀l':T,CR :: l'.map core=CR :: X ++ cs-> ∃r,patP l'=some (p,r)/\r.map core=mk 59 :: cs):
  ∃r,script (f+1) l acc=script f r (acc ++ [p])/\r.map core=cs:=by
 cases l with
 | nil=>cases h
 | cons t r=>
  rw [mJ,nG,oM] at h;obtain ⟨h1,h2⟩:=h;obtain ⟨r1,h3,h4⟩:=hp r (by rw [h2];rfl)
  obtain ⟨r2,h5,h6⟩:=pats_one (f:=r.length) acc h3 h4;refine ⟨r2, ?_,h6⟩
  unfold core CR wordC at h1;rw [nH,nH] at h1;rw [script,lu ⟨h1.1,h1.2.1⟩,h5]
theorem script_nodes: ∀(ns:List Gr.N) (f:Nat) (l:T) (acc:List Pat) (cs:List C),(∀n∈ns,NGood n)->l.map core=ns.flatMap nodeT ++ cs->
  ∃r,script (f+ns.length) l acc=script f r (acc ++ ns.map nodeP)/\r.map core=cs
 | [],f,l,acc,cs,_,h=>⟨l,by rw [oh,mG];rfl,h⟩
 | n :: ns,f,l,acc,cs,hn,h=>by
  rw [ny,lX] at h
  obtain ⟨r1,h1,h2⟩:=script_step (f:=f+ns.length) (acc:=acc) (p:=nodeP n) h (fun l' h'=>node_yes (hn n (by simp)) h')
  obtain ⟨r2,h3,h4⟩:=script_nodes ns f r1 (acc ++ [nodeP n]) cs (fun x hx=>hn x (mg _ hx)) h2
  exact ⟨r2,by rw [lF,<-pq,h1,h3,lX];rfl,h4⟩
theorem script_rels: ∀(ns:List Gr.R) (f:Nat) (l:T) (acc:List Pat) (cs:List C),(∀n∈ns,RGood n)->l.map core=ns.flatMap relT ++ cs->
  ∃r,script (f+ns.length) l acc=script f r (acc ++ ns.map relPt)/\r.map core=cs
 | [],f,l,acc,cs,_,h=>⟨l,by rw [oh,mG];rfl,h⟩
 | n :: ns,f,l,acc,cs,hn,h=>by
  rw [ny,lX] at h
  obtain ⟨r1,h1,h2⟩:=script_step (f:=f+ns.length) (acc:=acc) (p:=relPt n) h (fun l' h'=>rel_yes (hn n (by simp)) h')
  obtain ⟨r2,h3,h4⟩:=script_rels ns f r1 (acc ++ [relPt n]) cs (fun x hx=>hn x (mg _ hx)) h2
  exact ⟨r2,by rw [lF,<-pq,h1,h3,lX];rfl,h4⟩
theorem adj_pairwise {α κ:Type} {key:α->κ} {R:κ->κ->Prop} (tr: ∀{a b c},R a b->R b c->R a c) {l:List α} (h: ∀(j:Nat) a,l[j]?=some a-> ∀q,Gr.prevAt key l j=some q->R q (key a)):l.Pairwise (fun a b=>R (key a) (key b)):=by
 have hs: ∀(d i:Nat) (hi:i<l.length) (hj:i+d+1<l.length),R (key l[i]) (key l[i+d+1]):=by
  intro d
  induction d with
  | zero=>intro i hi hj;exact h (i+1) _ (ak hj) _ (Gr.prevAt_some (ak hi))
  | succ d ih=>
   intro i hi hj
   exact tr (ih i hi (by omega)) (h (i+(d+1)+1) _ (ak hj) _ (Gr.prevAt_some (ak (by omega))))
 rw [pU];intro i j hi hj hij;have:=hs (j - i - 1) i hi (by omega)
 have e:i+(j - i - 1)+1=j:=by omega
 simp only [e] at this;exact this
theorem sortBy_of {α κ:Type} {key:α->κ} {lt:κ->κ->Prop} {le:κ->κ->Bool} {l l':List α} (hp:l'.Perm l) (h:l.Pairwise (fun a b=>lt (key a) (key b))) (h1: ∀a b,lt a b->le a b=true) (tr: ∀a b c,le a b=true->le b c=true->le a c=true) (tot: ∀a b,(le a b || le b a)=true)
  (no: ∀a b,lt a b->le b a=false):Gr.sortBy le key l'=l:=by
 unfold Gr.sortBy
 refine List.Perm.eq_of_pairwise (le:=fun a b=>le (key a) (key b)=true) ?_ (tH (le:=fun a b=>le (key a) (key b)) (fun a b c=>tr (key a) (key b) (key c)) (fun a b=>tot (key a) (key b)) _) (h.imp (fun hx=>h1 _ _ hx)) ((oq _ _).trans hp)
 intro a b ha hb hab hba;have ha:=hp.mem_iff.1 ((oq _ _).mem_iff.1 ha)
 obtain ⟨i,hi,rfl⟩:=nS ha;obtain ⟨j,hj,rfl⟩:=nS hb;rw [pU] at h
 rcases vI i j with hlt | rfl | hgt
 ·rw [no _ _ (h i j hi hj hlt)] at hba;cases hba
 ·rfl
 rw [no _ _ (h j i hj hi hgt)] at hab;cases hab
theorem sort_int {α:Type} {key:α->Int} {l l':List α} (hp:l'.Perm l) (h:l.Pairwise (fun a b=>key a<key b)):Gr.sortBy (fun a b:Int=>decide (a<=b)) key l'=l:=
 sortBy_of (lt:=fun a b=>a<b) hp h (fun a b h=>kY (by omega)) (fun a b c h k=>kY (by have:=lN h;have:=lN k;omega))
  (fun a b=>by simp only [o9,mD];omega) (fun a b h=>kX (by omega))
theorem sort_str {α:Type} {key:α->L} {l l':List α} (hp:l'.Perm l) (h:l.Pairwise (fun a b=>key a<key b)):Gr.sortBy (fun a b:L=>decide (a<=b)) key l'=l:=
 sortBy_of (lt:=fun a b=>a<b) hp h (fun a b h=>kY (sW h)) (fun a b c h k=>kY (vO (lN h) (lN k)))
  (fun a b=>by simp only [o9,mD];exact wG a b) (fun a b h=>kX (vJ.2 h))
theorem lt_nodup {α κ:Type} {key:α->κ} {lt:κ->κ->Prop} (ir: ∀a,¬lt a a) {l:List α} (h:l.Pairwise (fun a b=>lt (key a) (key b))):(l.map key).Nodup:=by
 unfold List.Nodup;rw [rC]
 exact h.imp fun {a b} hx (e:key a=key b)=>ir (key b) (by rw [e] at hx;exact hx)
theorem keys_up {ps:List Gr.P} (h:Gr.PropsGood ps):ps.Pairwise (fun a b=>a.key<b.key):=adj_pairwise (key:=Gr.P.key) (R:=fun a b=>a<b) wH fun j a ha q hq=>vJ.1 ((h.all j a ha).lt q hq)
theorem labels_up {ls:List L} (h:Gr.LabelsGood ls):ls.Pairwise (fun a b=>a<b):=adj_pairwise (key:=id) (R:=fun a b=>a<b) wH fun j a ha q hq=>vJ.1 ((h.all j a ha).lt q hq)
theorem nodes_up {ns:List Gr.N} (h:Gr.NodesGood ns):ns.Pairwise (fun a b=>a.id<b.id):=adj_pairwise (key:=Gr.N.id) (R:=fun a b=>a<b) Int.lt_trans fun j a ha q hq=>(h.all j a ha).lt q hq
theorem rels_up {ids:List Int} {rs:List Gr.R} (h:Gr.RelsGood ids rs):rs.Pairwise (fun a b=>a.id<b.id):=adj_pairwise (key:=Gr.R.id) (R:=fun a b=>a<b) Int.lt_trans fun j a ha q hq=>(h.all j a ha).lt q hq
theorem props_nodup {ps:List Gr.P} (h:Gr.PropsGood ps):(ps.map Gr.P.key).Nodup:=lt_nodup (lt:=fun a b=>a<b) (fun a=>sO a) (keys_up h)
theorem labels_nodup {ls:List L} (h:Gr.LabelsGood ls):ls.Nodup:=by have:=lt_nodup (key:=id) (lt:=fun a b=>a<b) (fun a=>sO a) (labels_up h);rwa [uH] at this
structure Fine (g:Gr.G):Prop where
 good:Gr.Good g
 nums: ∀p∈Gr.allProps g,Cel.In64 p.val.num/\ ∀n∈p.val.nums,Cel.In64 n
theorem labelsGood_names {ls:List L} (h:Gr.LabelsGood ls): ∀l∈ls,Gr.goodName l=true:=fun l hl=>by
 obtain ⟨j,hj,e⟩:=nS hl;exact (h.all j l (by rw [ak hj,e])).name
theorem props_fine {g:Gr.G} (h:Fine g) {ps:List Gr.P} (hg:Gr.PropsGood ps) (hs: ∀p∈ps,p∈Gr.allProps g): ∀p∈ps,PGood p:=fun p hp=>
 ⟨hg.name p hp,hg.val p hp,(h.nums p (hs p hp)).1,(h.nums p (hs p hp)).2⟩
structure NFine (n:Gr.N):Prop where
 good:NGood n
 labels:n.labels.Nodup
 keys:(n.props.map Gr.P.key).Nodup
 canon:Gr.canonNode n=n
structure RFine (n:Gr.R):Prop where
 good:RGood n
 keys:(n.props.map Gr.P.key).Nodup
 canon:Gr.canonRel n=n
theorem canonProps_good {ps:List Gr.P} (h:Gr.PropsGood ps):Gr.canonProps ps=ps:=sort_str (oV _) (keys_up h)
theorem Fine.node {g:Gr.G} (h:Fine g) {n:Gr.N} (hn:n∈g.nodes):NFine n:=by
 obtain ⟨_,hg⟩:=h.good.nodes.mem hn
 refine ⟨⟨hg.lo,hg.hi,labelsGood_names hg.labels,props_fine h hg.props fun p hp=>qw _ (nM.2 ⟨n,hn,hp⟩)⟩,labels_nodup hg.labels,props_nodup hg.props, ?_⟩
 unfold Gr.canonNode Gr.canonLabels
 rw [canonProps_good hg.props,sort_str (key:=id) (oV _) (labels_up hg.labels)]
theorem id_range {g:Gr.G} (h:Fine g) {x:Int} (hx:x∈g.nodes.map Gr.N.id):0<=x/\x<1024:=by
 obtain ⟨n,hn,rfl⟩:=nR.1 hx;exact ⟨(h.node hn).good.lo,(h.node hn).good.hi⟩
theorem Fine.rel {g:Gr.G} (h:Fine g) {n:Gr.R} (hn:n∈g.rels):RFine n:=by
 obtain ⟨_,hg⟩:=h.good.rels.mem hn;have hs:=id_range h hg.src;have hd:=id_range h hg.dst
 refine ⟨⟨hg.lo,hg.hi,hs.1,hs.2,hd.1,hd.2,hg.name,props_fine h hg.props fun p hp=>qU _ (nM.2 ⟨n,hn,hp⟩)⟩,props_nodup hg.props, ?_⟩
 unfold Gr.canonRel;rw [canonProps_good hg.props]
theorem idP_of {c:UInt8} {n m:Int} (h0:0<=n) (h1:n<m) (hm:m<=2048):idP c m (c :: Lib.itoa n)=some n:=by
 have hp:=Num.parse_itoa n (by omega) (by omega)
 unfold idP;simp only;rw [hp,lu (by simp only [and_self,true_and];exact ⟨h0,h1⟩)]
theorem dup_zero: ∀(ls seen:List L),(∀l∈ls,Gr.goodName l=true)->(seen ++ ls).Nodup->dupWrong seen ls=0
 | [],_,_,_=>rfl
 | l :: ls,seen,hn,hd=>by
  rw [dupWrong,kU (by rw [hn l (by simp)];decide),kU,dup_zero ls _ (fun x hx=>hn x (mg _ hx)) (by rw [lX];exact hd)]
  rw [qc] at hd;intro hx;exact hd.2.2 l hx l (by simp) rfl
theorem propsW_zero: ∀(ps:List Gr.P) (seen:List L),(∀p∈ps,PGood p)->(seen ++ ps.map Gr.P.key).Nodup->propsWrong seen ps=0
 | [],_,_,_=>rfl
 | p :: ps,seen,hn,hd=>by
  have hp:=hn p (by simp)
  rw [propsWrong,kU (by rw [hp.name];decide),kU,kU (by rw [hp.val.ck];decide),propsW_zero ps _ (fun x hx=>hn x (mg _ hx)) (by rw [lX];exact hd)]
  rw [qc] at hd;intro hx;exact hd.2.2 p.key hx p.key (by simp) rfl
theorem node_add {g:Gr.G} {n:Gr.N} (h:NFine n) (hid:n.id∉g.nodes.map Gr.N.id):add g (nodeP n)=(⟨g.nodes ++ [n],g.rels⟩,0):=by
 unfold add nodeP;rw [kU (by simp)]
 unfold addNode;simp only;rw [idP_of h.good.lo h.good.hi (by decide)]
 simp only
 rw [kU hid,dup_zero _ [] h.good.labels h.labels,kU (by decide),propsW_zero _ [] h.good.props h.keys]
theorem end_of {g:Gr.G} {n:Int} (h0:0<=n) (h1:n<1024) (hm:n∈g.nodes.map Gr.N.id):endP g (110 :: Lib.itoa n)=(n,0):=by
 unfold endP;rw [idP_of h0 h1 (by decide)]
 simp only;rw [lu hm]
theorem rel_add {g:Gr.G} {n:Gr.R} (h:RFine n) (hid:n.id∉g.rels.map Gr.R.id) (hs:n.src∈g.nodes.map Gr.N.id) (hd:n.dst∈g.nodes.map Gr.N.id):add g (relPt n)=(⟨g.nodes,g.rels ++ [n]⟩,0):=by
 unfold add relPt;rw [lu rfl];unfold addRel;simp only
 rw [end_of h.good.slo h.good.shi hs,end_of h.good.dlo h.good.dhi hd,kU (by simp),idP_of h.good.lo h.good.hi (by decide)]
 have hg: ¬Gr.goodName ([n.type].headD [])=false:=by rw [show [n.type].headD []=n.type from rfl,h.good.name];decide
 simp only;rw [kU hid,kU hg,propsW_zero _ [] h.good.props h.keys];simp
theorem make_nodes: ∀(ns:List Gr.N) (g:Gr.G) (r:List Pat),(∀n∈ns,NFine n)->((g.nodes ++ ns).map Gr.N.id).Nodup->make g (ns.map nodeP ++ r)=make ⟨g.nodes ++ ns,g.rels⟩ r
 | [],g,r,_,_=>by rw [mG];rfl
 | n :: ns,g,r,hn,hd=>by
  have hid:n.id∉g.nodes.map Gr.N.id:=fun hx=>by
   rw [mV,qc] at hd;exact hd.2.2 _ hx n.id (by simp) rfl
  rw [mJ,nG,make,node_add (hn n (by simp)) hid,kU (by simp),make_nodes ns (⟨g.nodes ++ [n],g.rels⟩,0).1 r (fun x hx=>hn x (mg _ hx)) (by simpa using hd),lX]
  rfl
theorem make_rels: ∀(rs:List Gr.R) (g:Gr.G) (r:List Pat),(∀n∈rs,RFine n)->(∀n∈rs,n.src∈g.nodes.map Gr.N.id/\n.dst∈g.nodes.map Gr.N.id)->((g.rels ++ rs).map Gr.R.id).Nodup->make g (rs.map relPt ++ r)=make ⟨g.nodes,g.rels ++ rs⟩ r
 | [],g,r,_,_,_=>by rw [mG];rfl
 | n :: rs,g,r,hn,he,hd=>by
  have hid:n.id∉g.rels.map Gr.R.id:=fun hx=>by
   rw [mV,qc] at hd;exact hd.2.2 _ hx n.id (by simp) rfl
  rw [mJ,nG,make,rel_add (hn n (by simp)) hid (he n (by simp)).1 (he n (by simp)).2,kU (by simp),make_rels rs (⟨g.nodes,g.rels ++ [n]⟩,0).1 r (fun x hx=>hn x (mg _ hx)) (fun x hx=>he x (mg _ hx)) (by simpa using hd),lX]
  rfl
def linesOf (ns:List Gr.N) (rs:List Gr.R):L:=ns.flatMap nodeS ++ rs.flatMap relS
theorem print_lines (g:Gr.G):print g=linesOf g.nodes g.rels:=by
 unfold print lines linesOf;rw [List.flatten_append,List.flatMap_def,List.flatMap_def]
theorem read_of {s:L} {cs:List C} (h:Rds s cs) (hl:s.length<=16777216):(Lex.read s).1.map core=cs/\(Lex.read s).2=none:=by
 unfold Lex.read;rw [kU (by omega)]
 exact h 0
theorem nodeT_len (n:Gr.N):1<=(nodeT n).length:=by unfold nodeT;simp
theorem relT_len (n:Gr.R):1<=(relT n).length:=by unfold relT;simp
theorem flat_len {α:Type} {f:α->List C} (h: ∀a,1<=(f a).length): ∀l:List α,l.length<=(l.flatMap f).length
 | []=>by simp
 | a :: l=>by
  have:=flat_len h l;have:=h a;rw [ny,kW,lF];omega
theorem parse_lines {g:Gr.G} (h:Fine g) {ns:List Gr.N} {rs:List Gr.R} (hn:ns.Perm g.nodes) (hr:rs.Perm g.rels) (hl:(linesOf ns rs).length<=16777216):parse (linesOf ns rs)=(g,0):=by
 have fn: ∀n∈ns,NFine n:=fun n hx=>h.node (hn.mem_iff.1 hx)
 have fr: ∀n∈rs,RFine n:=fun n hx=>h.rel (hr.mem_iff.1 hx)
 have hrd:=Rds.nodes ns (fun n hx=>(fn n hx).good) (Rds.rels rs (fun n hx=>(fr n hx).good) Rds.nil)
 rw [mG] at hrd;obtain ⟨h1,h2⟩:=read_of hrd hl;unfold parse
 rw [show Lex.read (linesOf ns rs)=Lex.read (List.flatMap nodeS ns ++ List.flatMap relS rs) from rfl,h2]
 have hpt:patterns (Lex.read (List.flatMap nodeS ns ++ List.flatMap relS rs)).1=some (ns.map nodeP ++ rs.map relPt):=by
  obtain ⟨tk,htk⟩:=aj ((Lex.read (List.flatMap nodeS ns ++ List.flatMap relS rs)).1)
  rw [htk] at h1⊢;have hlen:=map_len h1;rw [kW,kW] at hlen;have:=flat_len nodeT_len ns
  have:=flat_len relT_len rs;unfold patterns
  rw [show tk.length+1=tk.length - ns.length - rs.length+1+rs.length+ns.length by omega]
  obtain ⟨r1,e1,e2⟩:=script_nodes ns _ tk [] _ (fun n hx=>(fn n hx).good) h1
  obtain ⟨r2,e3,e4⟩:=script_rels rs _ r1 _ _ (fun n hx=>(fr n hx).good) e2
  rw [e1,e3];cases r2 with
  | nil=>rw [mP];simp [script]
  | cons=>cases e4
 rw [hpt]
 have nd:=(hn.map Gr.N.id).nodup_iff.2 (lt_nodup (lt:=fun a b:Int=>a<b) (fun a=>Int.lt_irrefl a) (nodes_up h.good.nodes))
 have rd:=(hr.map Gr.R.id).nodup_iff.2 (lt_nodup (lt:=fun a b:Int=>a<b) (fun a=>Int.lt_irrefl a) (rels_up h.good.rels))
 have hm:make Gr.G0 (ns.map nodeP ++ rs.map relPt)=(⟨ns,rs⟩,0):=by
  rw [make_nodes ns Gr.G0 _ fn (by simpa [Gr.G0] using nd)]
  have:=make_rels rs ⟨Gr.G0.nodes ++ ns,Gr.G0.rels⟩ [] fr (fun n hx=>by
   obtain ⟨_,hg⟩:=h.good.rels.mem (hr.mem_iff.1 hx)
   have e:(Gr.G0.nodes ++ ns).map Gr.N.id=ns.map Gr.N.id:=rfl
   show n.src∈(Gr.G0.nodes ++ ns).map Gr.N.id/\n.dst∈(Gr.G0.nodes ++ ns).map Gr.N.id
   rw [e,(hn.map Gr.N.id).mem_iff,(hn.map Gr.N.id).mem_iff]
   exact ⟨hg.src,hg.dst⟩) (by simpa [Gr.G0] using rd)
  rw [mG] at this;rw [this];rfl
 have hc:Gr.canon ⟨ns,rs⟩=g:=by
  unfold Gr.canon
  have e1:ns.map Gr.canonNode=ns:=by rw [qL (g:=id) fun n hx=>(fn n hx).canon,uH]
  have e2:rs.map Gr.canonRel=rs:=by rw [qL (g:=id) fun n hx=>(fr n hx).canon,uH]
  simp only
  rw [e1,e2,sort_int hn (nodes_up h.good.nodes),sort_int hr (rels_up h.good.rels)]
 simp only;rw [hm];simp only [ne_eq,tY,rY];rw [hc,Gr.check_good.2 h.good,kU (by decide)]
theorem parse_print {g:Gr.G} (h:Fine g) (hl:(print g).length<=16777216):parse (print g)=(g,0):=by
 rw [print_lines] at hl⊢;exact parse_lines h (oV _) (oV _) hl
end Go.Proofs.YtanlehkalkafdaaGreatDoor.Cy
