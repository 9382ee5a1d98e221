/- Contracts and plain laws,part 22. -/
import Derived.Test.YtanlehkalkafdaaGreatDoorUT21
import Derived.Lib.SplitLaws
import Derived.Lib.Join
import Derived.Shelf.Spec.SearchS
set_option maxHeartbeats 64000000
set_option maxRecDepth 1000000
set_option linter.all false
namespace Go.Proofs.YtanlehkalkafdaaGreatDoor
open Go.RowKit
theorem split_59: ∀s:List UInt8,Lib.splitK [59] 0 (Lib.count s [59]) s=Tb.splitS s
 | []=>rfl
 | c :: r=>by
  have ih:=split_59 r;by_cases hc:c=59
  ·subst hc
   have h0:Lib.index (59 :: r) [59]=((0:Nat):Int):=by simp [Lib.index]
   rw [Lib.count_hit (by simp) h0]
   show Lib.splitK [59] 0 (1+Lib.count r [59]) (59 :: r)=_
   rw [pF,Lib.splitK,h0,kU (by decide),Tb.splitS,lu rfl]
   show [] :: Lib.splitK [59] 0 (Lib.count r [59]) r=_
   rw [ih]
  have hp:([59]:List UInt8).isPrefixOf (c :: r)=false:=by
   have:(59 == c)=false:=lH.2 fun e=>hc e.symm
   simp [List.isPrefixOf,this]
  have hI:Lib.index (c :: r) [59]=if Lib.index r [59] == -1 then -1 else Lib.index r [59]+1:=by rw [Lib.index,hp];rfl
  rw [Tb.splitS,kU hc]
  rcases Lib.index_spec r [59] with ⟨h1,-⟩ |⟨i,h1,-⟩
  ·rw [h1,lu (by decide)] at hI
   rw [Lib.count_miss hI];rw [Lib.count_miss h1] at ih;rw [<-ih];rfl
  rw [h1,kU (by rw [nI];omega)] at hI
  have hI':Lib.index (c :: r) [59]=((i+1:Nat):Int):=by rw [hI];omega
  rw [Lib.count_hit (by simp) hI']
  rw [Lib.count_hit (by simp) h1,pF,Lib.splitK,h1,kU (by rw [nI];omega)] at ih
  rw [<-ih,pF,Lib.splitK,hI',kU (by rw [nI];omega)]
  simp
theorem splitB_59 (s:ByteArray):(Lib.splitB ⟨#[59]⟩ 0 (Lib.countB s ⟨#[59]⟩) s).map (·.data.toList)=Tb.splitS s.data.toList:=by
 rw [Lib.splitB_data];exact split_59 _
theorem map_data (f:List ByteArray) (l:List (List UInt8)) (h:f.map (·.data.toList)=l):f.map Value.string=l.map ST:=by
 subst h;rw [oQ]
 apply qL
 intro x _;rfl
theorem splitB_ST (s:ByteArray):(Lib.splitB ⟨#[59]⟩ 0 (Lib.countB s ⟨#[59]⟩) s).map Value.string=(Tb.splitS s.data.toList).map ST:=map_data _ _ (splitB_59 s)
theorem splitB_len (s:ByteArray):Lib.countB s ⟨#[59]⟩+1=(Tb.splitS s.data.toList).length:=by
 rw [<-splitB_59,lU,Lib.splitB_all _ (by decide) 0 _ s rfl]
theorem join_59: ∀l:List (List UInt8),Lib.join l [59]=Tb.joinS l
 | []=>rfl
 | [a]=>Lib.join_one _ _
 | a :: b :: r=>by
  have ih:=join_59 (b :: r);rw [Lib.join_cons] at ih⊢;rw [Tb.joinS,<-ih]
  simp [Lib.joinTail]
theorem search_key {keys:List (List UInt8)} (hs:keys.Pairwise (· < ·)) {k:List UInt8} {i n:Nat} (hk:keys[i]?=some k) (hn:keys.length=n):
  Lib.bsGo (fun t=>Op.bytesLess ((fun t=>(⟨(keys.getD t k).toArray⟩:ByteArray)) t).toList (⟨k.toArray⟩:ByteArray).toList) n 0 n=i:=by
 obtain ⟨hi,hki⟩:=lK.1 hk;have hp:=pU.1 hs
 refine Lib.bsGo_spec _ i (fun t ht=> ?_) (fun t ht=> ?_) n 0 n (by omega) (pY _) (by omega)
 ·have hg:keys.getD t k=keys[t]'(by omega):=by simp [List.getD,ak (show t<keys.length by omega)]
  have:=hp t i (by omega) hi ht
  rw [hki] at this
  show Op.bytesLess (⟨(keys.getD t k).toArray⟩:ByteArray).toList _=true
  rw [st_toList,st_toList,bytesLess_lt,hg];exact kY this
 show Op.bytesLess (⟨(keys.getD t k).toArray⟩:ByteArray).toList _=false
 rw [st_toList,st_toList,bytesLess_lt];refine kX fun hlt=> ?_
 by_cases htl:t<keys.length
 ·have hg:keys.getD t k=keys[t]:=by simp [List.getD,ak htl]
  rw [hg] at hlt
  rcases Nat.lt_or_eq_of_le ht with h | h
  ·have:=hp i t hi htl h
   rw [hki] at this;exact sO k (wH this hlt)
  subst h;rw [hki] at hlt;exact sO k hlt
 have hg:keys.getD t k=k:=by simp [List.getD,ou (show keys.length<=t by omega)]
 rw [hg] at hlt;exact sO k hlt
theorem keys_lt (ps:List Gr.P):(Tb.keysOf ps).Pairwise (· < ·):=((Tb.keys_sorted ps).and (Tb.keys_nodup ps)).imp fun h=>(uI.1 (lN h.1)).elim id fun e=>absurd e h.2
theorem fieldOf_new {ps:List Gr.P} {p:Gr.P} (h:p.key∉ps.map Gr.P.key):Tb.fieldOf (ps ++ [p]) p.key=Cel.print p.val:=by
 unfold Tb.fieldOf
 have:ps.find? (fun q=>decide (q.key=p.key))=none:=List.find?_eq_none.2 fun q hq=>by
  simp only [mD];exact fun e=>h (by rw [<-e];exact oD hq)
 rw [List.find?_append,this];simp
theorem fieldOf_old {ps:List Gr.P} {p:Gr.P} {k:List UInt8} (h:k≠p.key):Tb.fieldOf (ps ++ [p]) k=Tb.fieldOf ps k:=by
 unfold Tb.fieldOf;rw [List.find?_append];cases hf:ps.find? (fun q=>decide (q.key=k)) with
 | some q=>rfl
 | none=>
  have hne: ¬p.key=k:=fun e=>h e.symm
  simp [hne]
theorem fields_set {keys:List (List UInt8)} (hn:keys.Nodup) {ps:List Gr.P} {p:Gr.P} {i:Nat} (hi:keys[i]?=some p.key) (hp:p.key∉ps.map Gr.P.key):
  (keys.map (Tb.fieldOf ps)).set i (Cel.print p.val)=keys.map (Tb.fieldOf (ps ++ [p])):=by
 apply sF
 intro j;rw [List.getElem?_set];by_cases hj:i=j
 ·subst hj
  obtain ⟨h1,-⟩:=lK.1 hi;rw [lu rfl,lu (by simpa using h1),mW,hi,nU,fieldOf_new hp]
 rw [kU hj,mW,mW];cases hk:keys[j]? with
 | none=>rfl
 | some k=>
  rw [nU,nU,fieldOf_old];intro e;subst e;obtain ⟨h1,h2⟩:=lK.1 hi;obtain ⟨h3,h4⟩:=lK.1 hk
  exact hj ((List.getElem_inj (h₀:=h1) (h₁:=h3) hn).1 (h2.trans h4.symm))
theorem fields_nil (keys:List (List UInt8)):keys.map (Tb.fieldOf [])=List.replicate keys.length []:=by
 rw [List.eq_replicate_iff];exact ⟨by simp,fun b hb=>by obtain ⟨k,-,rfl⟩:=nR.1 hb;rfl⟩
theorem Reads.drop {w:World} {B n k b off:Nat} {xs:List Value} (h:Reads w B 1 (some ⟨b,off,none⟩) n xs) (hk:k<=n):Reads w B 1 (some ⟨b,off+k,none⟩) (n - k) (xs.drop k):=by
 refine ⟨by rw [mM,h.1];omega,fun h0=> ?_⟩
 obtain ⟨b',off',e,hb,hc⟩:=h.2 (by omega)
 cases e;exact ⟨b,off+k,rfl,hb,fun j u hu=>by rw [sZ] at hu;rw [pq];exact hc _ _ hu⟩
theorem Rows2.at {w:World} {B k:Nat} {A:Option Addr} {n c:Nat} {rows:List (List Csv.F)} {r:List Csv.F} (h:Rows2 w B (.slice A n c) rows) (hk:rows[k]?=some r):
  ∃b off Ar cr,A=some ⟨b,off,none⟩/\b<B/\w.cell? ⟨b,off+k,none⟩=some (.slice Ar r.length cr)/\r.length<=cr/\cr<=maxLen/\Reads w B 1 Ar r.length (r.map ST):=by
 obtain ⟨A',c',us,e,-,-,hul,hA,hr⟩:=h
 injection e with e1 e2 e3
 subst e1;obtain ⟨hkl,-⟩:=lK.1 hk;obtain ⟨b,off,u,e,hb,hu,hc⟩:=hA.at_ hkl
 obtain ⟨Ar,cr,rfl,h1,h2,h3⟩:=hr k u r hu hk;exact ⟨b,off,Ar,cr,e,hb,hc,h1,h2,h3⟩
theorem Rows2.form {w:World} {B:Nat} {v:Value} {rows:List (List Csv.F)} (h:Rows2 w B v rows): ∃A c,v= .slice A rows.length c/\rows.length<=c/\c<=maxLen:=by
 obtain ⟨A',c',us,e,h1,h2,-⟩:=h;exact ⟨A',c',e,h1,h2⟩
theorem Reads.blk {w:World} {B n:Nat} {A:Option Addr} {xs:List Value} (h:Reads w B 1 A n xs) (hn:0<n): ∃b off,A=some ⟨b,off,none⟩/\b<B:=by
 obtain ⟨b,off,e,hb,-⟩:=h.2 hn;exact ⟨b,off,e,hb⟩
theorem Reads.st {w:World} {B n k b off:Nat} {l:List (List UInt8)} {f:List UInt8} (h:Reads w B 1 (some ⟨b,off,none⟩) n (l.map ST)) (hk:l[k]?=some f):w.cell? ⟨b,off+k,none⟩=some (ST f):=by
 have hn:l.length=n:=by have:=h.1;rw [lU] at this;omega
 obtain ⟨hkl,-⟩:=lK.1 hk;obtain ⟨b',off',e,-,hc⟩:=h.2 (by omega)
 cases e;exact hc k (ST f) (by rw [mW,hk];rfl)
def RowsO (W:World) (B:Nat) (v:Value) (rows:List (List (List UInt8))):Prop:=
 ∃us:List Value,us.length=rows.length/\W.ownsRow B 45 1 v rows.length us/\ ∀(k:Nat) u r,us[k]?=some u->rows[k]?=some r->W.ownsRow B 9 1 u r.length (r.map ST)
theorem RowsO.below {W W':World} {B:Nat} {v:Value} {rows:List (List (List UInt8))} (h:RowsO W B v rows) (hb:Below W.heap.size W W'):RowsO W' B v rows:=by
 obtain ⟨us,h1,h2,h3⟩:=h
 exact ⟨us,h1,own_kept_ty h2 (only_of_below hb none) (fun g c t fz hr=>by cases hr),fun k u r hu hr=>own_kept_ty (h3 k u r hu hr) (only_of_below hb none) (fun g c t fz hr=>by cases hr)⟩
theorem RowsO.form {W:World} {B:Nat} {v:Value} {rows:List (List (List UInt8))} (h:RowsO W B v rows): ∃A c,v= .slice A rows.length c:=by
 obtain ⟨us,h1,h2,h3⟩:=h;exact own_form h2
theorem RowsO.put {W W':World} {B:Nat} {v v' u:Value} {rows:List (List (List UInt8))} {r:List (List UInt8)} {us:List Value} (h1:us.length=rows.length) (h2:W.ownsRow B 45 1 v rows.length us)
  (h3: ∀(k:Nat) u r,us[k]?=some u->rows[k]?=some r->W.ownsRow B 9 1 u r.length (r.map ST)) (hu:W.ownsRow B 9 1 u r.length (r.map ST)) (hg:W.grownBy W' v.ownBlock)
  (ho:W'.ownsRow B 45 1 v' (rows.length+1) (us ++ [u])):RowsO W' B v' (rows ++ [r]):=by
 have hty: ∀g c t fz,v.ownBlock=some g->W.heap[g]?=some (.cells c t fz)->t≠9:=fun g c t fz hr hc=>by
  obtain ⟨-,c',hc'⟩:=own_blocks h2 g hr;rw [hc'] at hc;cases hc
  decide
 refine ⟨us ++ [u],by simp [h1],by simpa using ho,fun k x y hx hy=> ?_⟩
 by_cases hk:k<us.length
 ·rw [nX hk] at hx
  rw [nX (by omega)] at hy
  exact own_kept_ty (h3 k x y hx hy) hg hty
 rw [nT (by omega)] at hx
 rw [nT (by omega)] at hy
 have hk0:k - us.length=0:=by
  have:=(lK.1 hx).1
  simpa using this
 rw [hk0] at hx;rw [<-h1,hk0] at hy;simp at hx hy;subst hx hy;exact own_kept_ty hu hg hty
theorem RowsO.rows2 {W:World} {B:Nat} {v:Value} {rows:List (List (List UInt8))} (h:RowsO W B v rows):Rows2 W W.heap.size v rows:=by
 obtain ⟨us,h1,h2,h3⟩:=h
 rcases h2.2 with ⟨rfl,hn⟩ |⟨g,cap,cur,rfl,hb,hg,q1,q2,q3⟩
 ·have hr:rows= []:=lI hn
  subst hr;have hu:us= []:=lI h1;subst hu
  exact ⟨none,0, [],rfl,by simp,by unfold maxLen;omega,rfl,Reads.none_,fun k u r hu=>by simp at hu⟩
 exact ⟨_,cap,us,rfl,q1,q2,h1,Reads.of_own (c:=cap) h2,fun k u r hu hr=>Row1.of_own (h3 k u r hu hr)⟩
def BA (l:List UInt8):ByteArray:=⟨l.toArray⟩
theorem BA_map {x y:List (List UInt8)}:x.map BA=y.map BA↔x=y:=⟨fun h=>by
 have:=lq (List.map fun b:ByteArray=>b.data.toList) h
 simpa [BA,ru] using this,fun h=>h▸rfl⟩
theorem BA_data (z:ByteArray):BA z.data.toList=z:=rfl
theorem reads_getD {w:World} {B b o n:Nat} {l:List (List UInt8)} (h:Reads w B 1 (some ⟨b,o,none⟩) n (l.map ST)): ∀j,j<(l.map BA).length->w.cell? ⟨b,o+j,none⟩=some (.string ((l.map BA).getD j ByteArray.empty)):=by
 intro j hj;have hjl:j<l.length:=by simpa using hj
 rw [h.st (ak hjl)];simp [List.getD,hjl,ST,BA]
theorem reads_len {w:World} {B n:Nat} {A:Option Addr} {l:List (List UInt8)} (h:Reads w B 1 A n (l.map ST)):l.length=n:=by
 have:=h.1;rw [lU] at this;omega
theorem split_any (s:ByteArray) (w:World) (hs:s.size<=1073741824) (hL:Laid w):
  Calls Tryz.prog 21 #[.string s, .string ⟨#[59]⟩] w fun e w'=>e= .returned (.slice (some ⟨w.heap.size,0,none⟩) (Tb.splitS s.data.toList).length (Tb.splitS s.data.toList).length)/\w.alloc (.cells ((Tb.splitS s.data.toList).map ST).toArray 9)=w':=by
 obtain ⟨m,hm⟩:=hL.max;have h:=Tryz.strings_Split s ⟨#[59]⟩ m w (by omega) hm (by decide)
 rw [splitB_ST,splitB_len] at h;exact h.mono fun e w' ⟨he,hw⟩=>⟨he,hw.symm⟩
theorem jG {base k c:Nat} {A:Option Addr} {l:List (List UInt8)} (z:ByteArray) (w:World) (h:w.ownsRow base 9 1 (.slice A k c) k (l.map ST)) (hk:k<=1073741824):
  Calls Tryz.prog 116 #[.slice A k c, .string z] w fun e w'=>e= .returned (.bool (decide (z.data.toList∈l)))/\w=w':=by
 have hr:=Reads.of_own h;have hl:=reads_len hr;by_cases h0:k=0
 ·subst h0
  obtain rfl:l= []:=tC.1 hl
  exact (Tryz.slices_Contains_string_empty A c z w).mono fun e w' ⟨he,hw⟩=>⟨by simpa using he,hw.symm⟩
 obtain ⟨b,o,rfl,-⟩:=hr.blk (by omega)
 have h1:=Tryz.slices_Contains_string b o k c (l.map BA) z w (by simp [hl]) (by omega) (reads_getD hr)
 have e:Lib.containsS ((l.map BA).take k) z=decide (z.data.toList∈l):=by
  rw [lT (by simp [hl]),ql,Lib.containsS_iff,mD]
  constructor
  ·intro h;obtain ⟨x,hx,e⟩:=nR.1 h;rw [<-e];exact hx
  intro h;rw [<-BA_data z];exact oD h
 rw [e] at h1;exact h1.mono fun e w' ⟨he,hw⟩=>⟨he,hw.symm⟩
theorem equal_any {B1 B2 b1 o1 c b2 o2 d m:Nat} {xs ys:List (List UInt8)} (w:World) (hx:Reads w B1 1 (some ⟨b1,o1,none⟩) m (xs.map ST)) (hy:Reads w B2 1 (some ⟨b2,o2,none⟩) m (ys.map ST)) (hm:m<=1073741824):
  Calls Tryz.prog 114 #[.slice (some ⟨b1,o1,none⟩) m c, .slice (some ⟨b2,o2,none⟩) m d] w fun e w'=>e= .returned (.bool (decide (xs=ys)))/\Below w.heap.size w w':=by
 have l1:=reads_len hx;have l2:=reads_len hy
 have h:=Tryz.slices_Equal_string b1 o1 m c b2 o2 m d (xs.map BA) (ys.map BA) w (by simp [l1]) (by simp [l2]) (by omega) (by omega) (reads_getD hx) (reads_getD hy)
 rw [lT (by simp [l1]),lT (by simp [l2])] at h
 have e:decide (xs.map BA=ys.map BA)=decide (xs=ys):=by rw [ql];simp only [mD,BA_map]
 rw [e] at h
 exact h.mono fun e w' ⟨he,q,hw⟩=>⟨he,by rw [hw];exact below_drewN (Below.refl _ _) q⟩
def bsRen:Go.Shelf.Ren:=⟨fun | 26=>56 | 33=>102 | 34=>103 | 38=>141 | n=>n,fun | 24=>45 | 40=>155 | 9=>9 | 4=>4 | 3=>3 | n=>n,fun | n=>n⟩
theorem jH:Lays2.n26 Tryz.prog bsRen:={
 mixed:=by kernel_rfl
 f26:=Tryz.func56.trans (lq some (by kernel_rfl))
 f33:=Tryz.func102.trans (lq some (by kernel_rfl))
 f34:=Tryz.func103.trans (lq some (by kernel_rfl))
 f38:=Tryz.func141.trans (lq some (by kernel_rfl))
 t0:=Tryz.underlying0
 a0:=Tryz.isAgg0
 z0:=Tryz.sizeOf0
 v0:=Tryz.zeroValue0
 t3:=Tryz.underlying3
 a3:=Tryz.isAgg3
 z3:=Tryz.sizeOf3
 v3:=Tryz.zeroValue3
 t4:=Tryz.underlying4
 a4:=Tryz.isAgg4
 z4:=Tryz.sizeOf4
 v4:=Tryz.zeroValue4
 t9:=Tryz.underlying9
 a9:=Tryz.isAgg9
 z9:=Tryz.sizeOf9
 v9:=Tryz.zeroValue9
 t24:=Tryz.underlying45
 a24:=Tryz.isAgg45
 z24:=Tryz.sizeOf45
 v24:=Tryz.zeroValue45
 t40:=Tryz.underlying155
 a40:=Tryz.isAgg155
 z40:=Tryz.sizeOf155
 v40:=Tryz.zeroValue155}
theorem jI {B n c i:Nat} {A:Option Addr} {keys:List (List UInt8)} {k:List UInt8} (w:World) (h:Reads w B 1 A n (keys.map ST)) (hs:keys.Pairwise (· < ·)) (hk:keys[i]?=some k) (hn:n<=1073741824):
  Calls Tryz.prog 56 #[.slice A n c, .string ⟨k.toArray⟩] w fun e w'=> ∃t,e= .returned (.tuple #[.int .i64 i, .bool t])/\Below w.heap.size w w':=by
 have hl:=reads_len h;obtain ⟨hi,-⟩:=lK.1 hk;obtain ⟨b,o,rfl,-⟩:=h.blk (by omega)
 have h1:=Any2.slices_BinarySearch_string jH b o n c (fun t=>(⟨(keys.getD t k).toArray⟩:ByteArray)) ⟨k.toArray⟩ w (by omega) (fun j hj=>by
  have hjl:j<keys.length:=by omega
  rw [h.st (ak hjl)]
  simp [List.getD,hjl,ST])
 rw [search_key hs hk hl] at h1
 exact h1.mono fun e w' ⟨he,q,hw⟩=>⟨_,he,by rw [hw];exact below_drewN (Below.refl _ _) q⟩
theorem joinL_any {base n c:Nat} {A:Option Addr} {l:List (List UInt8)} (w:World) (h:w.ownsRow base 9 1 (.slice A n c) n (l.map ST)) (hn:n<=1073741824) (hl:(Tb.joinS l).length<=140737488355328):
  Calls Tryz.prog 23 #[.slice A n c, .string ⟨#[59]⟩] w fun e w'=>e= .returned (.string ⟨(Tb.joinS l).toArray⟩)/\Below w.heap.size w w':=by
 have hr:=Reads.of_own h;have hll:=reads_len hr
 rcases h.2 with ⟨he,h0⟩ |⟨g,cap,cur,he,h1,h2,h3,h4,h5,h6⟩
 ·subst h0
  obtain rfl:l= []:=tC.1 hll
  injection he with e1 e2 e3
  subst e1 e3
  exact (Tryz.strings_Join_none none 0 ⟨#[59]⟩ w).mono fun e w' ⟨he,hw⟩=>⟨he,hw▸Below.refl _ _⟩
 injection he with e1 e2 e3
 subst e1 e3;have hm:(l.map BA).map (·.data.toList)=l:=by simp [BA,ru]
 obtain ⟨hi,-⟩:=lV.1 h2
 have key:=Tryz.strings_Join g 0 c (l.map BA) ⟨#[59]⟩ w (fun j x hx=>by
  rw [mW] at hx;obtain ⟨y,hy,rfl⟩:=nP.1 hx
  exact hr.st hy) hi (by rw [lU];omega) (by rw [lU];omega) (by rw [hm];show (Lib.join l [59]).length<=_;rw [join_59];exact hl)
 rw [lU,hll,hm] at key
 rw [show Lib.join l (⟨#[59]⟩:ByteArray).data.toList=Tb.joinS l from join_59 l] at key
 exact key
theorem tbId_any (n:Int) (w:World) (h0: -9223372036854775808<=n) (h1:n<=9223372036854775807) (hL:Laid w):
  Calls Tryz.prog 22 #[.int .i64 n] w fun e w'=>e= .returned (.string ⟨(Lib.itoa n).toArray⟩)/\Below w.heap.size w w':=by
 have H:=ah (fmtInt_any n w h0 h1 hL);clear hL h0 h1;go_enter Tryz.func22,Tryz.ntmps22
 go_wp2_with fail;refine H.out.mono ?_;rintro e w1 ⟨rfl,hb⟩;have HB:=ah hb;clear hb;go_wp2
 go_ret;exact ⟨rfl,HB.out⟩
def KnRes (o:Option Int) (w:World) (e:Ending) (w':World):Prop:=
 ∃x b,e= .returned (.tuple #[.int .i64 x, .bool b])/\Below w.heap.size w w'/\b=o.isSome/\ ∀n,o=some n->x=n
theorem known_any (s:ByteArray) (m:Int) (w:World) (hs:s.size<=1073741824) (hL:Laid w):
  Calls Tryz.prog 67 #[.string s, .int .i64 m] w (KnRes (Tb.known m s.data.toList) w):=by
 have hp:=parseInt_any s w hs hL;obtain ⟨o,ho⟩:=aj (Tb.known m s.data.toList);rw [ho]
 unfold Tb.known at ho;obtain ⟨q,hq⟩:=aj (Num.parseInt s.data.toList);obtain ⟨x,e0⟩:=q
 rw [hq] at hp ho;simp only at ho;have HP:=ah hp;have HO:=ah ho;clear hp ho hq hL hs
 go_enter Tryz.func67,Tryz.ntmps67;go_wp2_with fail;refine HP.mono ?_;rintro e w1 ⟨rfl,hb⟩
 have HB:=ah hb;clear hb HP;by_cases h0:e0=0
 ·subst h0
  by_cases h1:0<=x
  ·by_cases h2:x<m
   ·have HR:=ah (show o=some x by rw [<-HO.out,lu ⟨rfl,h1,h2⟩])
    have t2:decide (x<m)=true:=kY h2;clear HO;go_wp2
    go_ret2
    exact ⟨x,_,rfl,HB.out,by rw [HR.out];first | rfl | exact t2,fun n hn=>by rw [HR.out] at hn;exact mQ hn⟩
   have HR:=ah (show o=none by rw [<-HO.out,kU (fun h=>h2 h.2.2)])
   have h2':m<=x:=by omega
   have t2:decide (x<m)=false:=kX h2;clear HO h2;go_wp2
   go_ret2
   exact ⟨x,_,rfl,HB.out,by rw [HR.out];first | rfl | exact t2,fun n hn=>by rw [HR.out] at hn;cases hn⟩
  have HR:=ah (show o=none by rw [<-HO.out,kU (fun h=>h1 h.2.1)])
  have h1':x<0:=by omega
  clear HO h1;go_wp2
  go_ret2
  exact ⟨x,false,rfl,HB.out,by rw [HR.out];rfl,fun n hn=>by rw [HR.out] at hn;cases hn⟩
 have HR:=ah (show o=none by rw [<-HO.out,kU (fun h=>h0 h.1)])
 have t:((e0:Int) == 0)=false:=by rw [lH];omega
 clear HO h0;go_wp2
 go_ret2
 exact ⟨x,false,rfl,HB.out,by rw [HR.out];rfl,fun n hn=>by rw [HR.out] at hn;cases hn⟩
theorem iq: ∀(l:List (List UInt8)) {a:List UInt8},a∈l->a.length<=(l.map List.length).sum
 | [],_,h=>by cases h
 | x :: r,a,h=>by
  rw [mJ,oH]
  rcases mX.1 h with rfl | h
  ·omega
  have:=iq r h;omega
def LabRes (R:List (List UInt8)×Nat) (w:World) (e:Ending) (w':World):Prop:=
 ∃v,e= .returned (.tuple #[v, .int .i64 (R.2:Nat)])/\w'.ownsRow w.heap.size 9 1 v R.1.length (R.1.map ST)/\Below w.heap.size w w'
theorem jJ (s:ByteArray) (w:World) (hs:s.size<=1073741823) (hL:Laid w):
  Calls Tryz.prog 68 #[.string s] w (LabRes (Tb.labelsP s.data.toList) w):=by
 obtain ⟨R,hR⟩:=aj (Tb.labelsP s.data.toList);rw [hR];unfold Tb.labelsP at hR
 by_cases h0:s.data.toList= []
 ·rw [lu h0] at hR
  subst hR;obtain rfl:s=⟨#[]⟩:=by rw [<-BA_data s,h0];rfl
  clear h0 hs hL;go_enter Tryz.func68,Tryz.ntmps68;go_wp2
  go_ret2
  exact ⟨_,rfl,World.ownsRow_nil _ _ _ _,Below.refl _ _⟩
 rw [kU h0] at hR
 have t0:s.toList.isEmpty=false:=by
  rw [Lib.toList_data];cases hc:s.data.toList with
  | nil=>exact absurd hc h0
  | cons a r=>rfl
 have hsum:=Tb.split_sum s.data.toList;have hsp:=split_any s w (by omega) hL
 have hss:s.data.toList.length=s.size:=(Lib.size_eq s).symm
 obtain ⟨ps,hps⟩:=aj (Tb.splitS s.data.toList);rw [hps] at hR hsp hsum
 have hsz: ∀p∈ps,p.length<=1073741824:=fun p hp=>by have:=iq ps hp;omega
 obtain ⟨n,hn⟩:=aj ps.length;rw [hn] at hsp hsum;have hnb:n<=1073741824:=by omega
 obtain ⟨E,hE⟩:=aj (Tb.namesWrong [] ps);rw [hE] at hR
 obtain ⟨W1,hW1⟩:=aj (w.alloc (.cells (ps.map ST).toArray 9))
 have hb1:Below w.heap.size w W1:=hW1▸(Below.refl _ w).alloc (kV _) _
 have hz1:W1.heap.size=w.heap.size+1:=by rw [<-hW1];simp
 rw [hW1] at hsp;have hk1:Blk W1 w.heap.size 9 (ps.map ST).toArray:=hW1▸Blk.new _ _ _
 have HSP:=ah hsp;have HR:=ah hR;have HSZ:=ah hsz;have HN:=ah hn;have HE:=ah hE
 have HB1:=ah hb1;have HK1:=ah hk1;have HZ1:=ah hz1
 clear h0 hsum hsp hss hps hR hsz hn hE hW1 hb1 hk1 hz1 hL hs
 go_enter Tryz.func68,Tryz.ntmps68;go_wp2_with fail;refine HSP.mono ?_
 rintro e w1 ⟨rfl,rfl⟩;clear HSP;go_wp2_with fail
 go_loopg [2,11] n (fun q x y wr=> ∃k:Nat,∃A c,x= .slice A k c/\y= .int .i64 k/\k+q=n/\Below W1.heap.size W1 wr/\wr.ownsRow W1.heap.size 9 1 (.slice A k c) k ((ps.take k).map ST)/\Hid (Tb.namesWrong (ps.take k) (ps.drop k)=E))
 case atStart=>exact ⟨0,none,0,rfl,rfl,by omega,Below.refl _ _,World.ownsRow_nil _ _ _ _,HE.out⟩
 obtain ⟨k,A,c,rfl,rfl,hk,hb,ho,he⟩:=hrel;have HB:=ah hb;have HO:=ah ho;have HK:=ah hk
 clear hb ho HE;cases gk with
 | zero=>
  obtain rfl:k=n:=by omega
  have h0:E=0:=by
   have h:=he.out;rw [nN (by rw [HN.out];exact kV _)] at h
   rw [<-h];rfl
  have hr:R=(ps,0):=by rw [<-HR.out,lu h0]
  subst hr
  have HF:=ah (show wr.ownsRow w.heap.size 9 1 (.slice A k c) ps.length (ps.map ST) by
   have h:=HO.out;rw [lT (by rw [HN.out];exact kV _)] at h
   rw [HN.out]
   exact own_base h (by have:=HZ1.out;omega))
  clear he h0 hk;go_wp2
  go_ret2
  exact ⟨_,rfl,HF.out,HB1.trans (HB.mono HB1.size)⟩
 | succ q=>
  have hkn:k<n:=by omega
  have hknI:(k:Int)<n:=by omega
  obtain ⟨p,hp⟩: ∃p,ps[k]?=some p:=⟨_,ak (by rw [HN.out];exact hkn)⟩
  have hdr:ps.drop k=p :: ps.drop (k+1):=by
   rw [mZ (by rw [HN.out];exact hkn)]
   congr 1
   exact mQ ((ak _).symm.trans hp)
  have htk:ps.take (k+1)=ps.take k ++ [p]:=by rw [nV,hp];rfl
  have hpl:=HSZ.out p (lS hp)
  have hcell:wr.cell? ⟨w.heap.size,k,none⟩=some (ST p):=(HB.cell (p:=⟨w.heap.size,k,none⟩) HK1.lt).trans (by
   have:=HK1.cell k;rw [this]
   simp [hp])
  obtain ⟨z,hz⟩:=aj (⟨p.toArray⟩:ByteArray);have hst:ST p= .string z:=by rw [<-hz];rfl
  have hzd:z.data.toList=p:=by rw [<-hz]
  have hzs:z.size<=1073741824:=by rw [Lib.size_eq,hzd];exact hpl
  rw [hst] at hcell;have hw:=he.out;rw [hdr,Tb.namesWrong] at hw
  obtain ⟨g,hg⟩:=aj (Gr.goodName p);have hgn:=goodName_any z wr hzs;rw [hzd,hg] at hgn
  rw [hg] at hw;have hcn:=jG z wr HO.out (by omega)
  rw [hzd] at hcn;obtain ⟨d,hd⟩:=aj (decide (p∈ps.take k):Bool);rw [hd] at hcn
  have HGN:=ah hgn;have HCN:=ah hcn;have HW:=ah hw;have HD:=ah hd;have HTK:=ah htk
  have HST:=ah hst;clear hp hdr htk hpl hz hst hzd hw hg hgn hcn hd he hk;go_wp2_with fail
  refine HGN.mono ?_;rintro e w2 ⟨rfl,rfl⟩;clear HGN;cases g with
  | false=>
   have hr:R=([],60):=by rw [<-HR.out,<-HW.out,lu rfl,kU (by decide)]
   subst hr;go_wp2
   go_ret2
   exact ⟨_,rfl,World.ownsRow_nil _ _ _ _,HB1.trans (HB.mono HB1.size)⟩
  | true=>
  go_wp2_with fail;refine HCN.mono ?_;rintro e w2 ⟨rfl,rfl⟩;clear HCN;cases d with
  | true=>
   have hE:E=7:=by rw [<-HW.out,kU (by decide),lu (lN HD.out)]
   have hr:R=([],7):=by rw [<-HR.out,hE,kU (by decide)]
   subst hr;go_wp2
   go_ret2
   exact ⟨_,rfl,World.ownsRow_nil _ _ _ _,HB1.trans (HB.mono HB1.size)⟩
  | false=>
  have hw2:=HW.out;rw [kU (by decide),kU (lJ HD.out)] at hw2
  have HW2:=ah hw2;have hkb:k<1073741824:=by omega
  have hsz:=HB.size;clear hw2 HW HD
  go_wp2_with (at_builtin;refine wpList_append_one rfl (.tmp 21) (.tmp 23) 45 9 (.string ⟨#[]⟩) 16 Tryz.underlying45 info_string rfl (by decide) rfl W1.heap.size (.slice A k c) k ((ps.take k).map ST) wr rfl HO.out (.string z) rfl rfl hkb hsz ?_)
  intro v9 w9 hown9 hgr9 hwh9 hb9;obtain ⟨A9,c9,rfl⟩:=own_form hown9
  have HO9:=ah (show w9.ownsRow W1.heap.size 9 1 (.slice A9 (k+1) c9) (k+1) ((ps.take (k+1)).map ST) by rw [HTK.out,mV,mJ,oh,HST.out];first | exact hown9 |(rw [<-wI] at hown9;exact hown9))
  have HB9:=ah (HB.trans hb9);clear hown9 hgr9 hwh9 hb9 hcell;go_wp2
  go_roundg q
  case measure=>omega
  exact ⟨k+1,A9,c9,rfl,int_eq (by omega),by have:=HK.out;omega,HB9.out,HO9.out,by rw [HTK.out];exact HW2.out⟩
def Tb.propsGo (acc:List Gr.P) (ks fs:List (List UInt8)):List Gr.P×Nat:=if (Tb.propsP ks fs).2≠0 then ([],(Tb.propsP ks fs).2) else (acc ++(Tb.propsP ks fs).1,0)
theorem Tb.propsP_err: ∀(ks fs:List (List UInt8)),(Tb.propsP ks fs).2≠0->(Tb.propsP ks fs).1= []
 | [],_,_=>rfl
 | k :: ks, [],_=>rfl
 | k :: ks,f :: fs,h=>by
  rw [Tb.propsP] at h⊢
  split
  ·rename_i h1;rw [lu h1] at h;exact Tb.propsP_err ks fs h
  rename_i h1;rw [kU h1] at h
  split
  ·rfl
  rename_i h2;rw [kU h2] at h
  split
  ·rfl
  rename_i h3;rw [kU h3] at h;exact absurd rfl h
theorem Tb.propsGo_nil (ks fs:List (List UInt8)):Tb.propsGo [] ks fs=Tb.propsP ks fs:=by
 unfold Tb.propsGo
 split
 ·rename_i h;exact qJ (Tb.propsP_err ks fs h).symm rfl
 rename_i h;have h0:(Tb.propsP ks fs).2=0:=Classical.not_not.1 h;exact qJ rfl h0.symm
theorem Tb.propsGo_end (acc:List Gr.P) (fs:List (List UInt8)):Tb.propsGo acc [] fs=(acc,0):=by
 unfold Tb.propsGo;rw [show Tb.propsP [] fs=([],0) from rfl,kU (by simp),mG]
theorem Tb.propsGo_skip {acc:List Gr.P} {k:List UInt8} {ks fs:List (List UInt8)}:Tb.propsGo acc (k :: ks) ([] :: fs)=Tb.propsGo acc ks fs:=by
 unfold Tb.propsGo
 rw [show Tb.propsP (k :: ks) ([] :: fs)=Tb.propsP ks fs by rw [Tb.propsP,lu rfl]]
theorem Tb.propsGo_bad {acc:List Gr.P} {k f:List UInt8} {ks fs:List (List UInt8)} (hf:f≠ []) (h:(Cel.parse f).2≠0):Tb.propsGo acc (k :: ks) (f :: fs)=([],(Cel.parse f).2):=by
 unfold Tb.propsGo
 rw [show Tb.propsP (k :: ks) (f :: fs)=([],(Cel.parse f).2) by rw [Tb.propsP,kU hf,lu h],lu h]
theorem Tb.propsGo_put {acc:List Gr.P} {k f:List UInt8} {ks fs:List (List UInt8)} {v:Cel.V} (hf:f≠ []) (h:Cel.parse f=(v,0)):Tb.propsGo acc (k :: ks) (f :: fs)=Tb.propsGo (acc ++ [⟨k,v⟩]) ks fs:=by
 unfold Tb.propsGo;by_cases h2:(Tb.propsP ks fs).2≠0
 ·rw [show Tb.propsP (k :: ks) (f :: fs)=([],(Tb.propsP ks fs).2) by rw [Tb.propsP,kU hf,h,kU (by simp),lu h2],lu h2,lu h2]
 rw [show Tb.propsP (k :: ks) (f :: fs)=(⟨k,v⟩ ::(Tb.propsP ks fs).1,0) by rw [Tb.propsP,kU hf,h,kU (by simp),kU h2],kU (by simp),kU h2]
 simp
def PrpRes (R:List Gr.P×Nat) (w:World) (e:Ending) (w':World):Prop:=
 ∃v,e= .returned (.tuple #[v, .int .i64 (R.2:Nat)])/\PropsOwn 53 w' w.heap.size v R.1/\Below w.heap.size w w'
theorem bV {α:Type} {l:List α} {k:Nat} {a:α} (h:l[k]?=some a):l.drop k=a :: l.drop (k+1):=by
 obtain ⟨hl,he⟩:=lK.1 h;rw [mZ hl,he]
theorem tprops_any (B:Nat) (Ak Af:Option Addr) (ck cf n:Nat) (keys fields:List (List UInt8)) (w:World) (hk:Reads w B 1 Ak n (keys.map ST)) (hf:Reads w B 1 Af n (fields.map ST)) (hn:n<=16777217)
  (hfs: ∀f∈fields,f.length<=16777216) (hB:B<=w.heap.size) (hL:Laid w):
  Calls Tryz.prog 69 #[.slice Ak n ck, .slice Af n cf] w (PrpRes (Tb.propsP keys fields) w):=by
 obtain ⟨R,hR⟩:=aj (Tb.propsP keys fields);rw [hR];rw [<-Tb.propsGo_nil] at hR
 have hkl:=reads_len hk;have hfl:=reads_len hf;have HKR:=ah hk;have HFR:=ah hf
 have HKL:=ah hkl;have HFL:=ah hfl;have HFS:=ah hfs;have HBw:=ah hB;have HL:=ah hL
 have HR:=ah hR;clear hk hf hkl hfl hfs hB hL hR;go_enter Tryz.func69,Tryz.ntmps69
 go_wp2_with fail
 go_loopg [4,12] n (fun q x y wr=> ∃k:Nat,∃acc A c,x= .slice A acc.length c/\y= .int .i64 k/\k+q=n/\acc.length<=k/\Below w.heap.size w wr/\PropsOwn 53 wr w.heap.size (.slice A acc.length c) acc/\Hid (Tb.propsGo acc (keys.drop k) (fields.drop k)=R))
 case atStart=>exact ⟨0, [],none,0,rfl,rfl,by omega,kV _,Below.refl _ _,PropsOwn.nil _ _ _,HR.out⟩
 obtain ⟨k,acc,A,c,rfl,rfl,hk,hal,hb,hp,he⟩:=hrel;have HB:=ah hb;have HP:=ah hp
 have HK:=ah hk;clear hb hp HR;cases gk with
 | zero=>
  obtain rfl:k=n:=by omega
  have hr:R=(acc,0):=by
   have h:=he.out;rw [nN (by rw [HKL.out];exact kV _),Tb.propsGo_end] at h
   exact h.symm
  subst hr;clear he hk hal;go_wp2
  go_ret2
  exact ⟨_,rfl,HP.out,HB.out⟩
 | succ q=>
  have hkn:k<n:=by omega
  have hknI:(k:Int)<n:=by omega
  obtain ⟨key,hky⟩: ∃p,keys[k]?=some p:=⟨_,ak (by rw [HKL.out];exact hkn)⟩
  obtain ⟨f,hf⟩: ∃p,fields[k]?=some p:=⟨_,ak (by rw [HFL.out];exact hkn)⟩
  obtain ⟨b1,o1,rfl,hb1⟩:=HKR.blk (by omega)
  obtain ⟨b2,o2,rfl,hb2⟩:=HFR.blk (by omega)
  have ck1:=(HB.cell (p:=⟨b1,o1+k,none⟩) (lZ hb1 HBw.out)).trans (HKR.st hky)
  have cf1:=(HB.cell (p:=⟨b2,o2+k,none⟩) (lZ hb2 HBw.out)).trans (HFR.st hf)
  obtain ⟨zk,hzk⟩:=aj (⟨key.toArray⟩:ByteArray);obtain ⟨z,hz⟩:=aj (⟨f.toArray⟩:ByteArray)
  have e1:ST key= .string zk:=by rw [<-hzk];rfl
  have e2:ST f= .string z:=by rw [<-hz];rfl
  have hzd:z.data.toList=f:=by rw [<-hz]
  rw [e1] at ck1;rw [e2] at cf1;have hg:=he.out;rw [bV hky,bV hf] at hg
  have hfl:=HFS.out f (lS hf);have HE1:=ah e1;have HG:=ah hg;have hb1':=lZ hb1 HBw.out
  clear he hg hky hf hzk e1 e2 hk hb1 hb2;by_cases hf0:f= []
  ·subst hf0
   have hz0:z=⟨#[]⟩:=hz.symm;subst hz0;have HG2:=ah (Tb.propsGo_skip.symm.trans HG.out)
   clear HG hz hzd hfl;go_wp2
   go_roundg q
   case measure=>omega
   exact ⟨k+1,acc,A,c,rfl,int_eq (by omega),by have:=HK.out;omega,by omega,HB.out,HP.out,HG2.out⟩
  have t0:z.toList.isEmpty=false:=by
   rw [Lib.toList_data,hzd];cases hc:f with
   | nil=>exact absurd hc hf0
   | cons a r=>rfl
  have hpc:=celParse_any z wr (by rw [Lib.size_eq,hzd];omega) (HL.below HB.out)
  rw [hzd] at hpc;obtain ⟨Q,hQ⟩:=aj (Cel.parse f);obtain ⟨v,ec⟩:=Q;rw [hQ] at hpc
  have HPC:=ah hpc;have HQ:=ah hQ;have HF0:=ah hf0;clear hpc hQ hz hzd hfl hf0
  go_wp2_with fail;refine HPC.mono ?_;rintro e w6 ⟨u,rfl,hv6,hb6⟩
  obtain ⟨s,t,rfl,hn6,ht6⟩:=hv6.ex;obtain ⟨A1,c1,rfl⟩:=own_form hn6
  obtain ⟨A2,c2,rfl⟩:=own_form ht6;have HB6:=ah (HB.trans (hb6.mono HB.size))
  have hsz6:=HB.size
  obtain ⟨W7,hW7⟩:=aj (w6.alloc (.cells #[.int .i64 v.kind, .int .i64 v.num, .string ⟨v.text.toArray⟩, .slice A1 v.nums.length c1, .slice A2 v.texts.length c2] 51))
  have hb7:Below w6.heap.size w6 W7:=hW7▸(Below.refl _ w6).alloc (kV _) _
  obtain ⟨nd,hnd⟩:=aj w6.heap.size
  have hk7:Blk W7 nd 51 #[.int .i64 v.kind, .int .i64 v.num, .string ⟨v.text.toArray⟩, .slice A1 v.nums.length c1, .slice A2 v.texts.length c2]:=by rw [<-hW7,<-hnd];exact Blk.new _ _ _
  have hbd:Below wr.heap.size wr (W7.drewN 1):=below_drewN (hb6.trans (hb7.mono hb6.size)) 1
  have HB7:=ah (HB.trans (hbd.mono HB.size))
  have kept6: ∀{T:TypeId} {B0 sz m:Nat} {x:Value} {xs:List Value},w6.ownsRow B0 T sz x m xs->(W7.drewN 1).ownsRow B0 T sz x m xs:=fun h=>own_kept_ty h (only_of_below (below_drewN hb7 1) none) (fun g c t fz hr=>by cases hr)
  have HPO:=ah (show PairOwn (W7.drewN 1) w.heap.size (⟨key,v⟩, [ST key, .int .i64 v.kind, .int .i64 v.num,ST v.text, .slice A1 v.nums.length c1, .slice A2 v.texts.length c2]) from ⟨_,_,rfl,own_base (kept6 hn6) hsz6,own_base (kept6 ht6) hsz6⟩)
  have ck7:=(hbd.cell (p:=⟨b1,o1+k,none⟩) (lZ hb1' hsz6)).trans ck1
  have HC7:=ah (show W7.cell? ⟨b1,o1+k,none⟩=some (.string zk) from ck7)
  have HK7:=ah hk7;obtain ⟨l,h1,h2,h3⟩:=HP.out;obtain ⟨al,hal2⟩:=aj acc.length
  have hp7:(∀x∈l,PairOwn (W7.drewN 1) w.heap.size x)/\(W7.drewN 1).ownsRow w.heap.size 53 6 (.slice A acc.length c) acc.length (l.flatMap Prod.snd):=
   ⟨fun x hx=>(h2 x hx).row (only_of_below hbd none) (fun g c t fz hr=>by cases hr),own_kept_ty h3 (only_of_below hbd none) (fun g c t fz hr=>by cases hr)⟩
  have H1:=ah h1;have H2:=ah hp7.1;have h3':=hp7.2;rw [hal2] at h3' hal⊢;have H3:=ah h3'
  have HAL:=ah hal2;have halb:al<536870912:=by omega
  have hszW:w.heap.size<=(W7.drewN 1).heap.size:=HB7.size;have HW7:=ah hW7;have HND:=ah hnd
  clear hv6 hb6 hn6 ht6 hW7 hb7 hk7 hbd kept6 ck7 h1 h2 h3 hp7 h3' hal2 ck1 cf1 hnd HP HPC
  go_upto_region 6 with fail
  rw [HW7.out,HND.out];clear HW7 HND;obtain ⟨d0,d1,d2,d3,d4⟩:=cells5 HK7.out
  by_cases hec:ec=0
  case neg=>
   have t1:((ec:Int) !=0)=true:=by rw [mF];omega
   have hr:R=([],ec):=by
    rw [<-HG.out,Tb.propsGo_bad HF0.out (by rw [HQ.out];exact hec),HQ.out]
   subst hr;clear hec;go_wp2
   go_ret2
   exact ⟨_,rfl,PropsOwn.nil _ _ _,⟨HB7.os,HB7.tape,HB7.out.output,HB7.size,HB7.block⟩⟩
  subst hec;have HG2:=ah ((Tb.propsGo_put HF0.out HQ.out).symm.trans HG.out)
  obtain ⟨zt,hzt⟩:=aj (⟨v.text.toArray⟩:ByteArray)
  have hst:ST v.text= .string zt:=by rw [<-hzt];rfl
  have HSTT:=ah hst;rw [hzt] at d2;have ckk:=HC7.out;clear hzt hst HG;go_wp2_with fail
  go_region_law (first |(refine step_append_struct rfl (.tmp 27) (.tmp 34) 46 53 (.agg #[.string ⟨#[]⟩, .int .i64 0, .int .i64 0, .string ⟨#[]⟩, .slice none 0 0, .slice none 0 0]) 6 96 Tryz.underlying46 info_prop rfl (by decide) (by decide) rfl w.heap.size (.slice A al c) al (l.flatMap Prod.snd) (W7.drewN 1) rfl H3.out [.string zk, .int .i64 v.kind, .int .i64 v.num, .string zt, .slice A1 v.nums.length c1, .slice A2 v.texts.length c2] _ rfl rfl (by simp [Value.oneCell']) rfl halb hszW ?_;intro v9 w9 hown9 hgr9 hwh9 hb9;obtain ⟨A9,c9,rfl⟩:=own_form hown9) | fail)
  all_goals
   have hpo:=HPO.out;rw [HE1.out,HSTT.out] at hpo
   have HP9:=ah (PropsOwn.put (T:=53) (v:= .slice A acc.length c) (v':= .slice A9 (al+1) c9) (ps:=acc) ⟨by decide,by decide⟩ H1.out H2.out hpo (by rw [HAL.out];exact H3.out) (by rw [HAL.out];exact hgr9) (by rw [HAL.out];exact hown9))
   have HB9:=ah (HB7.trans hb9)
   have hlen9:(acc ++ [(⟨key,v⟩:Gr.P)]).length=al+1:=by rw [kW,HAL.out];rfl
   have HLEN:=ah hlen9;clear hpo hown9 hgr9 hwh9 hb9 hlen9 d0 d1 d2 d3 d4 ckk;go_wp2
   go_roundg q
   case measure=>omega
   exact ⟨k+1,acc ++ [⟨key,v⟩],A9,c9,by rw [HLEN.out],int_eq (by omega),by have:=HK.out;omega,by rw [HLEN.out];omega,HB9.out,by rw [HLEN.out];exact HP9.out,HG2⟩
end Go.Proofs.YtanlehkalkafdaaGreatDoor
namespace Go.Proofs.YtanlehkalkafdaaGreatDoor.Stb
open Go
variable {α:Type} {le:α->α->Bool}
structure Tot (le:α->α->Bool):Prop where
 trans: ∀{a b c},le a b=true->le b c=true->le a c=true
 total: ∀{a b},le a b=false->le b a=true
abbrev Srt (le:α->α->Bool) (l:List α):Prop:=l.Pairwise (fun a b=>le a b=true)
theorem le_of_last {A:List α} (_hT:Tot le) (h:Srt le A) {i:Nat} {x:α} (hx:A[i]?=some x) {z:α} (hz:z∈A.take (i+1)):z=x\/le z x=true:=by
 obtain ⟨j,hj,rfl⟩:=nS hz;rw [tN];rw [mO] at hj;obtain ⟨hi,hx⟩:=lK.1 hx
 rcases qj j i with hlt | hge
 ·right
  rw [<-hx];exact pU.1 h j i (by omega) hi hlt
 left
 have:j=i:=by omega
 subst this;exact hx
theorem le_of_first {A:List α} (_hT:Tot le) (h:Srt le A) {i:Nat} {x:α} (hx:A[i]?=some x) {z:α} (hz:z∈A.drop i):z=x\/le x z=true:=by
 obtain ⟨j,hj,rfl⟩:=nS hz;rw [List.getElem_drop];rw [mM] at hj;obtain ⟨hi,hx⟩:=lK.1 hx
 rcases nY j with rfl | hp
 ·left;simpa using hx
 right
 rw [<-hx];exact pU.1 h i (i+j) hi (by omega) (by omega)
theorem le_refl (hT:Tot le) (a:α):le a a=true:=by
 cases h:le a a with
 | true=>rfl
 | false=>have h':=hT.total h;rw [h] at h';exact h'
theorem le_or {a b:α} (hT:Tot le) (h:a=b\/le a b=true):le a b=true:=h.elim (fun e=>e▸le_refl hT _) id
theorem srt_cut {A:List α} (h:Srt le A) (i:Nat): ∀x∈A.take i,∀y∈A.drop i,le x y=true:=by
 have h':=h;rw [<-nK i A,Srt,pO] at h';exact h'.2.2
theorem ins_at {B:List α} {e:α} (hT:Tot le) (hB:Srt le B) {i:Nat} (h1:i=0\/ ∃x,B[i - 1]?=some x/\le x e=true) (h2:i=B.length\/ ∃y,B[i]?=some y/\le e y=true):Srt le (B.take i ++ e :: B.drop i):=by
 have hc:=srt_cut hB i;have hs:=hB;rw [<-nK i B,Srt,pO] at hs;obtain ⟨ha,hb,-⟩:=hs
 rw [Srt,pO];refine ⟨ha,List.pairwise_cons.2 ⟨fun x hx=> ?_,hb⟩,fun x hx y hy=> ?_⟩
 ·rcases h2 with rfl |⟨y,hy,hey⟩
  ·simp at hx
  exact hT.trans hey (le_or hT ((le_of_first hT hB hy hx).imp Eq.symm id))
 rcases mX.1 hy with rfl | hy
 ·rcases h1 with rfl |⟨z,hz,hze⟩
  ·simp at hx
  rcases nY i with rfl | hp
  ·simp at hx
  refine hT.trans (le_or hT (le_of_last hT hB hz (z:=x) ?_)) hze
  rwa [vw hp]
 exact hc x hx y hy
theorem perm_ins {B:List α} {e:α} (i:Nat):(B.take i ++ e :: B.drop i).Perm (e :: B):=by
 have:=List.perm_middle (a:=e) (l₁:=B.take i) (l₂:=B.drop i)
 rwa [nK] at this
theorem merge_split {A B S1 S2:List α} (hT:Tot le) (hA:Srt le A) (hB:Srt le B) {i j:Nat}
  (h1:i=0\/j=B.length\/ ∃x y,A[i - 1]?=some x/\B[j]?=some y/\le x y=true)
  (h2:i=A.length\/j=0\/ ∃x y,B[j - 1]?=some x/\A[i]?=some y/\le x y=true)
  (p1:S1.Perm (A.take i ++ B.take j)) (s1:Srt le S1) (p2:S2.Perm (A.drop i ++ B.drop j)) (s2:Srt le S2):Srt le (S1 ++ S2)/\(S1 ++ S2).Perm (A ++ B):=by
 constructor
 ·rw [Srt,pO]
  refine ⟨s1,s2,fun x hx y hy=> ?_⟩
  have hx:=p1.mem_iff.1 hx;have hy:=p2.mem_iff.1 hy
  rcases lW.1 hx with hx | hx
  ·rcases lW.1 hy with hy | hy
   ·exact srt_cut hA i x hx y hy
   rcases h1 with rfl | rfl |⟨u,v,hu,hv,huv⟩
   ·simp at hx
   ·simp at hy
   rcases nY i with rfl | hp
   ·simp at hx
   refine hT.trans (le_or hT (le_of_last hT hA hu (z:=x) ?_)) (hT.trans huv (le_or hT ((le_of_first hT hB hv hy).imp Eq.symm id)))
   rwa [vw hp]
  rcases lW.1 hy with hy | hy
  ·rcases h2 with rfl | rfl |⟨u,v,hu,hv,huv⟩
   ·simp at hy
   ·simp at hx
   rcases nY j with rfl | hp
   ·simp at hx
   refine hT.trans (le_or hT (le_of_last hT hB hu (z:=x) ?_)) (hT.trans huv (le_or hT ((le_of_first hT hA hv hy).imp Eq.symm id)))
   rwa [vw hp]
  exact srt_cut hB j x hx y hy
 refine (p1.append p2).trans ?_
 have e1:A ++ B=(A.take i ++ A.drop i) ++(B.take j ++ B.drop j):=by rw [nK,nK]
 rw [e1,lX,lX];refine List.Perm.append_left _ ?_;rw [<-lX,<-lX]
 exact List.Perm.append_right _ List.perm_append_comm
end Go.Proofs.YtanlehkalkafdaaGreatDoor.Stb
