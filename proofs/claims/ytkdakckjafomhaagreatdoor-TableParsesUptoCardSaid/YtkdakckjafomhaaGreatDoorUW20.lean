/- Contracts and plain laws,part 20. -/
import Derived.Test.YtkdakckjafomhaaGreatDoorUW13
import Derived.Test.YtkdakckjafomhaaGreatDoorUW19
import Derived.Lib.SplitLaws
import Derived.Lib.Join
import Derived.Shelf.Spec.SearchS
set_option maxHeartbeats 64000000
set_option maxRecDepth 1000000
set_option linter.all false
namespace Go.Proofs.YtkdakckjafomhaaGreatDoor
open Go.RowKit
theorem aa8: ∀s:List UInt8,Lib.splitK [59] 0 (Lib.count s [59]) s=Tb.dA s
 |[]=>rfl
 |c :: r=>by
  have ih:=aa8 r;by_cases hc:c=59
  ·subst hc
   have h0:Lib.index (59 :: r) [59]=((0:Nat):Int):=by simp[Lib.index]
   rw[Lib.count_hit (by simp) h0]
   show Lib.splitK [59] 0 (1+Lib.count r [59]) (59 :: r)=_
   rw[anc,Lib.splitK,h0,ade (by decide),Tb.dA,adk rfl]
   show[] :: Lib.splitK [59] 0 (Lib.count r [59]) r=_
   rw[ih]
  have hp:([59]:List UInt8).isPrefixOf (c :: r)=false:=by
   have:(59 == c)=false:=adh.2 fun e=>hc e.symm
   simp[List.isPrefixOf,this]
  have hI:Lib.index (c :: r) [59]=if Lib.index r [59] == -1 then -1 else Lib.index r [59]+1:=by rw[Lib.index,hp];rfl
  rw[Tb.dA,ade hc]
  rcases Lib.index_spec r [59] with⟨h1,-⟩|⟨i,h1,-⟩
  ·rw[h1,adk (by decide)]at hI
   rw[Lib.count_miss hI];rw[Lib.count_miss h1]at ih;rw[<-ih];rfl
  rw[h1,ade (by rw[aeI];omega)]at hI
  have hI':Lib.index (c :: r) [59]=((i+1:Nat):Int):=by rw[hI];omega
  rw[Lib.count_hit (by simp) hI']
  rw[Lib.count_hit (by simp) h1,anc,Lib.splitK,h1,ade (by rw[aeI];omega)]at ih
  rw[<-ih,anc,Lib.splitK,hI',ade (by rw[aeI];omega)]
  simp
theorem aa9 (s:ByteArray):(Lib.splitB ⟨#[59]⟩ 0 (Lib.countB s ⟨#[59]⟩) s).map (·.data.toList)=Tb.dA s.data.toList:=by
 rw[Lib.splitB_data];exact aa8 _
theorem ajB (f:List ByteArray) (l:List (List UInt8)) (h:f.map (·.data.toList)=l):f.map Value.string=l.map ST:=by
 subst h;rw[agk]
 apply aoR
 intro x _;rfl
theorem ajC (s:ByteArray):(Lib.splitB ⟨#[59]⟩ 0 (Lib.countB s ⟨#[59]⟩) s).map Value.string=(Tb.dA s.data.toList).map ST:=ajB _ _ (aa9 s)
theorem ajD (s:ByteArray):Lib.countB s ⟨#[59]⟩+1=(Tb.dA s.data.toList).length:=by
 rw[<-aa9,adU,Lib.splitB_all _ (by decide) 0 _ s rfl]
theorem Uz: ∀l:List (List UInt8),Lib.join l [59]=Tb.lT l
 |[]=>rfl
 |[a]=>Lib.join_one _ _
 |a :: b :: r=>by
  have ih:=Uz (b :: r);rw[Lib.join_cons]at ih⊢;rw[Tb.lT,<-ih];simp[Lib.joinTail]
theorem ajE {keys:List (List UInt8)} (hs:keys.Pairwise (· < ·)) {k:List UInt8} {i n:Nat} (hk:keys[i]?=some k) (hn:keys.length=n):
  Lib.bsGo (fun t=>Op.bytesLess ((fun t=>(⟨(keys.getD t k).toArray⟩:ByteArray)) t).toList (⟨k.toArray⟩:ByteArray).toList) n 0 n=i:=by
 obtain⟨hi,hki⟩:=adw.1 hk;have hp:=af5.1 hs
 refine Lib.bsGo_spec _ i (fun t ht=> ?_) (fun t ht=> ?_) n 0 n (by omega) (afP _) (by omega)
 ·have hg:keys.getD t k=keys[t]'(by omega):=by simp[List.getD,dF (show t<keys.length by omega)]
  have:=hp t i (by omega) hi ht
  rw[hki]at this
  show Op.bytesLess (⟨(keys.getD t k).toArray⟩:ByteArray).toList _=true
  rw[rZ,rZ,PG,hg];exact adb this
 show Op.bytesLess (⟨(keys.getD t k).toArray⟩:ByteArray).toList _=false
 rw[rZ,rZ,PG];refine ac5 fun hlt=> ?_
 by_cases htl:t<keys.length
 ·have hg:keys.getD t k=keys[t]:=by simp[List.getD,dF htl]
  rw[hg]at hlt
  rcases Nat.lt_or_eq_of_le ht with h|h
  ·have:=hp i t hi htl h
   rw[hki]at this;exact aoF k (arA this hlt)
  subst h;rw[hki]at hlt;exact aoF k hlt
 have hg:keys.getD t k=k:=by simp[List.getD,afB (show keys.length<=t by omega)]
 rw[hg]at hlt;exact aoF k hlt
theorem abb (ps:List Gr.P):(Tb.keysOf ps).Pairwise (· < ·):=((Tb.Um ps).and (Tb.Dh ps)).imp fun h=>(ap5.1 (adN h.1)).elim id fun e=>absurd e h.2
theorem ajF {ps:List Gr.P} {p:Gr.P} (h:p.key∉ps.map Gr.P.key):Tb.iC (ps++[p]) p.key=ak.print p.val:=by
 unfold Tb.iC
 have:ps.find? (fun q=>decide (q.key=p.key))=none:=List.find?_eq_none.2 fun q hq=>by
  simp only[aei];exact fun e=>h (by rw[<-e];exact afQ hq)
 rw[List.find?_append,this];simp
theorem ajG {ps:List Gr.P} {p:Gr.P} {k:List UInt8} (h:k≠p.key):Tb.iC (ps++[p]) k=Tb.iC ps k:=by
 unfold Tb.iC;rw[List.find?_append];cases hf:ps.find? (fun q=>decide (q.key=k)) with
 |some q=>rfl
 |none=>
  have hne: ¬p.key=k:=fun e=>h e.symm
  simp[hne]
theorem ajH {keys:List (List UInt8)} (hn:keys.Nodup) {ps:List Gr.P} {p:Gr.P} {i:Nat} (hi:keys[i]?=some p.key) (hp:p.key∉ps.map Gr.P.key):
  (keys.map (Tb.iC ps)).set i (ak.print p.val)=keys.map (Tb.iC (ps++[p])):=by
 apply anV
 intro j;rw[List.getElem?_set];by_cases hj:i=j
 ·subst hj
  obtain⟨h1,-⟩:=adw.1 hi;rw[adk rfl,adk (by simpa using h1),adX,hi,afs,ajF hp]
 rw[ade hj,adX,adX];cases hk:keys[j]? with
 |none=>rfl
 |some k=>
  rw[afs,afs,ajG];intro e;subst e;obtain⟨h1,h2⟩:=adw.1 hi;obtain⟨h3,h4⟩:=adw.1 hk
  exact hj ((List.getElem_inj (h₀:=h1) (h₁:=h3) hn).1 (h2.trans h4.symm))
theorem ajI (keys:List (List UInt8)):keys.map (Tb.iC [])=List.replicate keys.length []:=by
 rw[List.eq_replicate_iff];exact⟨by simp,fun b hb=>by obtain⟨k,-,rfl⟩:=afK.1 hb;rfl⟩
theorem Reads.drop {w:World} {B n k b off:Nat} {xs:List Value} (h:Reads w B 1 (some ⟨b,off,none⟩) n xs) (hk:k<=n):Reads w B 1 (some ⟨b,off+k,none⟩) (n - k) (xs.drop k):=by
 refine⟨by rw[aej,h.1];omega,fun h0=> ?_⟩
 obtain⟨b',off',e,hb,hc⟩:=h.2 (by omega)
 cases e;exact⟨b,off+k,rfl,hb,fun j u hu=>by rw[agh]at hu;rw[amQ];exact hc _ _ hu⟩
theorem kY.at {w:World} {B k:Nat} {A:Option Addr} {n c:Nat} {rows:List (List ay.F)} {r:List ay.F} (h:kY w B (.slice A n c) rows) (hk:rows[k]?=some r):
  ∃b off Ar cr,A=some ⟨b,off,none⟩/\b<B/\w.cell? ⟨b,off+k,none⟩=some (.slice Ar r.length cr)/\r.length<=cr/\cr<=maxLen/\Reads w B 1 Ar r.length (r.map ST):=by
 obtain⟨A',c',us,e,-,-,Lh,hA,hr⟩:=h
 injection e with e1 e2 e3
 subst e1;obtain⟨hkl,-⟩:=adw.1 hk;obtain⟨b,off,u,e,hb,hu,hc⟩:=hA.at_ hkl
 obtain⟨Ar,cr,rfl,h1,h2,h3⟩:=hr k u r hu hk;exact⟨b,off,Ar,cr,e,hb,hc,h1,h2,h3⟩
theorem kY.form {w:World} {B:Nat} {v:Value} {rows:List (List ay.F)} (h:kY w B v rows): ∃A c,v=.slice A rows.length c/\rows.length<=c/\c<=maxLen:=by
 obtain⟨A',c',us,e,h1,h2,-⟩:=h;exact⟨A',c',e,h1,h2⟩
theorem Reads.blk {w:World} {B n:Nat} {A:Option Addr} {xs:List Value} (h:Reads w B 1 A n xs) (hn:0<n): ∃b off,A=some ⟨b,off,none⟩/\b<B:=by
 obtain⟨b,off,e,hb,-⟩:=h.2 hn;exact⟨b,off,e,hb⟩
theorem Reads.st {w:World} {B n k b off:Nat} {l:List (List UInt8)} {f:List UInt8} (h:Reads w B 1 (some ⟨b,off,none⟩) n (l.map ST)) (hk:l[k]?=some f):w.cell? ⟨b,off+k,none⟩=some (ST f):=by
 have hn:l.length=n:=by have:=h.1;rw[adU]at this;omega
 obtain⟨hkl,-⟩:=adw.1 hk;obtain⟨b',off',e,-,hc⟩:=h.2 (by omega)
 cases e;exact hc k (ST f) (by rw[adX,hk];rfl)
def zA (W:World) (B:Nat) (v:Value) (rows:List (List (List UInt8))):Prop:=
 ∃us:List Value,us.length=rows.length/\W.ownsRow B 34 1 v rows.length us/\ ∀(k:Nat) u r,us[k]?=some u->rows[k]?=some r->W.ownsRow B 9 1 u r.length (r.map ST)
theorem zA.below {W W':World} {B:Nat} {v:Value} {rows:List (List (List UInt8))} (h:zA W B v rows) (hb:Below W.heap.size W W'):zA W' B v rows:=by
 obtain⟨us,h1,h2,h3⟩:=h
 exact⟨us,h1,aW h2 (dL hb none) (fun g c t fz hr=>by cases hr),fun k u r hu hr=>aW (h3 k u r hu hr) (dL hb none) (fun g c t fz hr=>by cases hr)⟩
theorem zA.put {W W':World} {B:Nat} {v v' u:Value} {rows:List (List (List UInt8))} {r:List (List UInt8)} {us:List Value} (h1:us.length=rows.length) (h2:W.ownsRow B 34 1 v rows.length us)
  (h3: ∀(k:Nat) u r,us[k]?=some u->rows[k]?=some r->W.ownsRow B 9 1 u r.length (r.map ST)) (hu:W.ownsRow B 9 1 u r.length (r.map ST)) (hg:W.grownBy W' v.ownBlock)
  (ho:W'.ownsRow B 34 1 v' (rows.length+1) (us++[u])):zA W' B v' (rows++[r]):=by
 have hty: ∀g c t fz,v.ownBlock=some g->W.heap[g]?=some (.cells c t fz)->t≠9:=fun g c t fz hr hc=>by
  obtain⟨-,c',hc'⟩:=tY h2 g hr;rw[hc']at hc;cases hc
  decide
 refine⟨us++[u],by simp[h1],by simpa using ho,fun k x y hx hy=> ?_⟩
 by_cases hk:k<us.length
 ·rw[aeZ hk]at hx
  rw[aeZ (by omega)]at hy
  exact aW (h3 k x y hx hy) hg hty
 rw[ae5 (by omega)]at hx
 rw[ae5 (by omega)]at hy
 have hk0:k - us.length=0:=by
  have:=(adw.1 hx).1
  simpa using this
 rw[hk0]at hx;rw[<-h1,hk0]at hy;simp at hx hy;subst hx hy;exact aW hu hg hty
theorem zA.anm {W:World} {B:Nat} {v:Value} {rows:List (List (List UInt8))} (h:zA W B v rows):kY W W.heap.size v rows:=by
 obtain⟨us,h1,h2,h3⟩:=h
 rcases h2.2 with⟨rfl,hn⟩|⟨g,cap,cur,rfl,hb,hg,q1,q2,q3⟩
 ·have hr:rows=[]:=adB hn
  subst hr;have hu:us=[]:=adB h1;subst hu
  exact⟨none,0,[],rfl,by simp,by unfold maxLen;omega,rfl,Reads.none_,fun k u r hu=>by simp at hu⟩
 exact⟨_,cap,us,rfl,q1,q2,h1,Reads.dI (c:=cap) h2,fun k u r hu hr=>Row1.dI (h3 k u r hu hr)⟩
def BA (l:List UInt8):ByteArray:=⟨l.toArray⟩
theorem ajJ {x y:List (List UInt8)}:x.map BA=y.map BA↔x=y:=⟨fun h=>by
 have:=aeH (List.map fun b:ByteArray=>b.data.toList) h
 simpa[BA,Function.comp_def] using this,fun h=>h▸rfl⟩
theorem UA (z:ByteArray):BA z.data.toList=z:=rfl
theorem UC {w:World} {B b o n:Nat} {l:List (List UInt8)} (h:Reads w B 1 (some ⟨b,o,none⟩) n (l.map ST)): ∀j,j<(l.map BA).length->w.cell? ⟨b,o+j,none⟩=some (.string ((l.map BA).getD j ByteArray.empty)):=by
 intro j hj;have hjl:j<l.length:=by simpa using hj
 rw[h.st (dF hjl)];simp[List.getD,hjl,ST,BA]
theorem vk {w:World} {B n:Nat} {A:Option Addr} {l:List (List UInt8)} (h:Reads w B 1 A n (l.map ST)):l.length=n:=by
 have:=h.1;rw[adU]at this;omega
theorem ajK (s:ByteArray) (w:World) (hs:s.size<=1073741824) (hL:Laid w):
  Calls Tryz.prog 22 #[.string s,.string ⟨#[59]⟩] w fun e w'=>e=.returned (.slice (some ⟨w.heap.size,0,none⟩) (Tb.dA s.data.toList).length (Tb.dA s.data.toList).length)/\w.alloc (.cells ((Tb.dA s.data.toList).map ST).toArray 9)=w':=by
 obtain⟨m,hm⟩:=hL.max;have h:=Tryz.strings_Split s ⟨#[59]⟩ m w (by omega) hm (by decide)
 rw[ajC,ajD]at h;exact h.mono fun e w' ⟨he,hw⟩=>⟨he,hw.symm⟩
theorem ajL {base k c:Nat} {A:Option Addr} {l:List (List UInt8)} (z:ByteArray) (w:World) (h:w.ownsRow base 9 1 (.slice A k c) k (l.map ST)) (hk:k<=1073741824):
  Calls Tryz.prog 76 #[.slice A k c,.string z] w fun e w'=>e=.returned (.bool (decide (z.data.toList∈l)))/\w=w':=by
 have hr:=Reads.dI h;have hl:=vk hr;by_cases h0:k=0
 ·subst h0
  obtain rfl:l=[]:=ao3.1 hl
  exact(Tryz.slices_Contains_string_empty A c z w).mono fun e w' ⟨he,hw⟩=>⟨by simpa using he,hw.symm⟩
 obtain⟨b,o,rfl,-⟩:=hr.blk (by omega)
 have h1:=Tryz.slices_Contains_string b o k c (l.map BA) z w (by simp[hl]) (by omega) (UC hr)
 have e:Lib.containsS ((l.map BA).take k) z=decide (z.data.toList∈l):=by
  rw[ado (by simp[hl]),agn,Lib.containsS_iff,aei]
  constructor
  ·intro h;obtain⟨x,hx,e⟩:=afK.1 h;rw[<-e];exact hx
  intro h;rw[<-UA z];exact afQ h
 rw[e]at h1;exact h1.mono fun e w' ⟨he,hw⟩=>⟨he,hw.symm⟩
theorem ajM {B1 B2 b1 o1 c b2 o2 d m:Nat} {xs ys:List (List UInt8)} (w:World) (hx:Reads w B1 1 (some ⟨b1,o1,none⟩) m (xs.map ST)) (hy:Reads w B2 1 (some ⟨b2,o2,none⟩) m (ys.map ST)) (hm:m<=1073741824):
  Calls Tryz.prog 74 #[.slice (some ⟨b1,o1,none⟩) m c,.slice (some ⟨b2,o2,none⟩) m d] w fun e w'=>e=.returned (.bool (decide (xs=ys)))/\Below w.heap.size w w':=by
 have l1:=vk hx;have l2:=vk hy
 have h:=Tryz.slices_Equal_string b1 o1 m c b2 o2 m d (xs.map BA) (ys.map BA) w (by simp[l1]) (by simp[l2]) (by omega) (by omega) (UC hx) (UC hy)
 rw[ado (by simp[l1]),ado (by simp[l2])]at h
 have e:decide (xs.map BA=ys.map BA)=decide (xs=ys):=by rw[agn];simp only[aei,ajJ]
 rw[e]at h
 exact h.mono fun e w' ⟨he,q,hw⟩=>⟨he,by rw[hw];exact below_drewN (Below.refl _ _) q⟩
def ajN:Go.Shelf.Ren:=⟨fun|26=>67|33=>106|34=>107|38=>153|n=>n,fun|24=>34|40=>149|9=>9|4=>4|3=>3|n=>n,fun|n=>n⟩
theorem ajO:Lays2.n26 Tryz.prog ajN:={
 mixed:=by kernel_rfl
 f26:=Tryz.func67.trans (aeH some (by kernel_rfl))
 f33:=Tryz.func106.trans (aeH some (by kernel_rfl))
 f34:=Tryz.func107.trans (aeH some (by kernel_rfl))
 f38:=Tryz.func153.trans (aeH some (by kernel_rfl))
 t0:=Tryz.underlying0
 a0:=Tryz.isAgg0
 z0:=Tryz.sizeOf0
 v0:=Tryz.zeroValue0
 t3:=Tryz.underlying3
 a3:=Tryz.isAgg3
 z3:=Tryz.sizeOf3
 v3:=Tryz.zeroValue3
 t4:=Tryz.underlying4
 a4:=Tryz.isAgg4
 z4:=Tryz.sizeOf4
 v4:=Tryz.zeroValue4
 t9:=Tryz.underlying9
 a9:=Tryz.isAgg9
 z9:=Tryz.sizeOf9
 v9:=Tryz.zeroValue9
 t24:=Tryz.underlying34
 a24:=Tryz.isAgg34
 z24:=Tryz.sizeOf34
 v24:=Tryz.zeroValue34
 t40:=Tryz.underlying149
 a40:=Tryz.isAgg149
 z40:=Tryz.sizeOf149
 v40:=Tryz.zeroValue149}
theorem ajP {B n c i:Nat} {A:Option Addr} {keys:List (List UInt8)} {k:List UInt8} (w:World) (h:Reads w B 1 A n (keys.map ST)) (hs:keys.Pairwise (· < ·)) (hk:keys[i]?=some k) (hn:n<=1073741824):
  Calls Tryz.prog 67 #[.slice A n c,.string ⟨k.toArray⟩] w fun e w'=> ∃t,e=.returned (.tuple #[.int .i64 i,.bool t])/\Below w.heap.size w w':=by
 have hl:=vk h;obtain⟨hi,-⟩:=adw.1 hk;obtain⟨b,o,rfl,-⟩:=h.blk (by omega)
 have h1:=Any2.slices_BinarySearch_string ajO b o n c (fun t=>(⟨(keys.getD t k).toArray⟩:ByteArray)) ⟨k.toArray⟩ w (by omega) (fun j hj=>by
  have hjl:j<keys.length:=by omega
  rw[h.st (dF hjl)]
  simp[List.getD,hjl,ST])
 rw[ajE hs hk hl]at h1
 exact h1.mono fun e w' ⟨he,q,hw⟩=>⟨_,he,by rw[hw];exact below_drewN (Below.refl _ _) q⟩
theorem ajQ {base n c:Nat} {A:Option Addr} {l:List (List UInt8)} (w:World) (h:w.ownsRow base 9 1 (.slice A n c) n (l.map ST)) (hn:n<=1073741824) (hl:(Tb.lT l).length<=140737488355328):
  Calls Tryz.prog 24 #[.slice A n c,.string ⟨#[59]⟩] w fun e w'=>e=.returned (.string ⟨(Tb.lT l).toArray⟩)/\Below w.heap.size w w':=by
 have hr:=Reads.dI h;have hll:=vk hr
 rcases h.2 with⟨he,h0⟩|⟨g,cap,cur,he,h1,h2,h3,h4,h5,h6⟩
 ·subst h0
  obtain rfl:l=[]:=ao3.1 hll
  injection he with e1 e2 e3
  subst e1 e3
  exact(Tryz.strings_Join_none none 0 ⟨#[59]⟩ w).mono fun e w' ⟨he,hw⟩=>⟨he,hw▸Below.refl _ _⟩
 injection he with e1 e2 e3
 subst e1 e3;have hm:(l.map BA).map (·.data.toList)=l:=by simp[BA,Function.comp_def]
 obtain⟨hi,-⟩:=adZ.1 h2
 have key:=Tryz.strings_Join g 0 c (l.map BA) ⟨#[59]⟩ w (fun j x hx=>by
  rw[adX]at hx;obtain⟨y,hy,rfl⟩:=ae4.1 hx
  exact hr.st hy) hi (by rw[adU];omega) (by rw[adU];omega) (by rw[hm];show(Lib.join l [59]).length<=_;rw[Uz];exact hl)
 rw[adU,hll,hm]at key
 rw[show Lib.join l (⟨#[59]⟩:ByteArray).data.toList=Tb.lT l from Uz l]at key
 exact key
theorem PU (n:Int) (w:World) (h0: -9223372036854775808<=n) (h1:n<=9223372036854775807) (hL:Laid w):
  Calls Tryz.prog 23 #[.int .i64 n] w fun e w'=>e=.returned (.string ⟨(Lib.itoa n).toArray⟩)/\Below w.heap.size w w':=by
 have H:=ah (Y9 n w h0 h1 hL);clear hL h0 h1;go_enter Tryz.func23,Tryz.ntmps23
 go_wp2_with fail;refine H.out.mono ?_;rintro e w1 ⟨rfl,hb⟩;have HB:=ah hb;clear hb;go_wp2
 go_ret;exact⟨rfl,HB.out⟩
def ajR (o:Option Int) (w:World) (e:Ending) (w':World):Prop:=
 ∃x b,e=.returned (.tuple #[.int .i64 x,.bool b])/\Below w.heap.size w w'/\b=o.isSome/\ ∀n,o=some n->x=n
theorem PW (s:ByteArray) (m:Int) (w:World) (hs:s.size<=1073741824) (hL:Laid w):
  Calls Tryz.prog 29 #[.string s,.int .i64 m] w (ajR (Tb.known m s.data.toList) w):=by
 have hp:=Za s w hs hL;obtain⟨o,ho⟩:=aj (Tb.known m s.data.toList);rw[ho]
 unfold Tb.known at ho;obtain⟨q,hq⟩:=aj (Num.iK s.data.toList);obtain⟨x,e0⟩:=q
 rw[hq]at hp ho;simp only at ho;have HP:=ah hp;have HO:=ah ho;clear hp ho hq hL hs
 go_enter Tryz.func29,Tryz.ntmps29;go_wp2_with fail;refine HP.mono ?_;rintro e w1 ⟨rfl,hb⟩
 have HB:=ah hb;clear hb HP;by_cases h0:e0=0
 ·subst h0
  by_cases h1:0<=x
  ·by_cases h2:x<m
   ·have HR:=ah (show o=some x by rw[<-HO.out,adk ⟨rfl,h1,h2⟩])
    have t2:decide (x<m)=true:=adb h2;clear HO;go_wp2
    go_ret2
    exact⟨x,_,rfl,HB.out,by rw[HR.out];first|rfl|exact t2,fun n hn=>by rw[HR.out]at hn;exact ad4 hn⟩
   have HR:=ah (show o=none by rw[<-HO.out,ade (fun h=>h2 h.2.2)])
   have h2':m<=x:=by omega
   have t2:decide (x<m)=false:=ac5 h2;clear HO h2;go_wp2
   go_ret2
   exact⟨x,_,rfl,HB.out,by rw[HR.out];first|rfl|exact t2,fun n hn=>by rw[HR.out]at hn;cases hn⟩
  have HR:=ah (show o=none by rw[<-HO.out,ade (fun h=>h1 h.2.1)])
  have h1':x<0:=by omega
  clear HO h1;go_wp2
  go_ret2
  exact⟨x,false,rfl,HB.out,by rw[HR.out];rfl,fun n hn=>by rw[HR.out]at hn;cases hn⟩
 have HR:=ah (show o=none by rw[<-HO.out,ade (fun h=>h0 h.1)])
 have t:((e0:Int) == 0)=false:=by rw[adh];omega
 clear HO h0;go_wp2
 go_ret2
 exact⟨x,false,rfl,HB.out,by rw[HR.out];rfl,fun n hn=>by rw[HR.out]at hn;cases hn⟩
theorem abd: ∀(l:List (List UInt8)) {a:List UInt8},a∈l->a.length<=(l.map List.length).sum
 |[],_,h=>by cases h
 |x :: r,a,h=>by
  rw[aeR,agb]
  rcases aeY.1 h with rfl|h
  ·omega
  have:=abd r h;omega
def ajS (R:List (List UInt8)×Nat) (w:World) (e:Ending) (w':World):Prop:=
 ∃v,e=.returned (.tuple #[v,.int .i64 (R.2:Nat)])/\w'.ownsRow w.heap.size 9 1 v R.1.length (R.1.map ST)/\Below w.heap.size w w'
theorem ajT (s:ByteArray) (w:World) (hs:s.size<=1073741823) (hL:Laid w):
  Calls Tryz.prog 30 #[.string s] w (ajS (Tb.oK s.data.toList) w):=by
 obtain⟨R,hR⟩:=aj (Tb.oK s.data.toList);rw[hR];unfold Tb.oK at hR
 by_cases h0:s.data.toList=[]
 ·rw[adk h0]at hR
  subst hR;obtain rfl:s=⟨#[]⟩:=by rw[<-UA s,h0];rfl
  clear h0 hs hL;go_enter Tryz.func30,Tryz.ntmps30;go_wp2
  go_ret2
  exact⟨_,rfl,World.ownsRow_nil _ _ _ _,Below.refl _ _⟩
 rw[ade h0]at hR
 have t0:s.toList.isEmpty=false:=by
  rw[Lib.toList_data];cases hc:s.data.toList with
  |nil=>exact absurd hc h0
  |cons a r=>rfl
 have hsum:=Tb.Uu s.data.toList;have hsp:=ajK s w (by omega) hL
 have hss:s.data.toList.length=s.size:=(Lib.size_eq s).symm
 obtain⟨ps,hps⟩:=aj (Tb.dA s.data.toList);rw[hps]at hR hsp hsum
 have hsz: ∀p∈ps,p.length<=1073741824:=fun p hp=>by have:=abd ps hp;omega
 obtain⟨n,hn⟩:=aj ps.length;rw[hn]at hsp hsum;have hnb:n<=1073741824:=by omega
 obtain⟨E,hE⟩:=aj (Tb.kT [] ps);rw[hE]at hR
 obtain⟨W1,hW1⟩:=aj (w.alloc (.cells (ps.map ST).toArray 9))
 have hb1:Below w.heap.size w W1:=hW1▸(Below.refl _ w).alloc (ac4 _) _
 have hz1:W1.heap.size=w.heap.size+1:=by rw[<-hW1];simp
 rw[hW1]at hsp;have hk1:au W1 w.heap.size 9 (ps.map ST).toArray:=hW1▸au.new _ _ _
 have og:=ah hsp;have HR:=ah hR;have fF:=ah hsz;have HN:=ah hn;have HE:=ah hE
 have HB1:=ah hb1;have bW:=ah hk1;have HZ1:=ah hz1
 clear h0 hsum hsp hss hps hR hsz hn hE hW1 hb1 hk1 hz1 hL hs
 go_enter Tryz.func30,Tryz.ntmps30;go_wp2_with fail;refine og.mono ?_
 rintro e w1 ⟨rfl,rfl⟩;clear og;go_wp2_with fail
 go_loopg [2,11] n (fun q x y wr=> ∃k:Nat,∃A c,x=.slice A k c/\y=.int .i64 k/\k+q=n/\Below W1.heap.size W1 wr/\wr.ownsRow W1.heap.size 9 1 (.slice A k c) k ((ps.take k).map ST)/\Hid (Tb.kT (ps.take k) (ps.drop k)=E))
 case atStart=>exact⟨0,none,0,rfl,rfl,by omega,Below.refl _ _,World.ownsRow_nil _ _ _ _,HE.out⟩
 obtain⟨k,A,c,rfl,rfl,hk,hb,ho,he⟩:=hrel;have HB:=ah hb;have HO:=ah ho;have HK:=ah hk
 clear hb ho HE;cases gk with
 |zero=>
  obtain rfl:k=n:=by omega
  have h0:E=0:=by
   have h:=he.out;rw[aeJ (by rw[HN.out];exact ac4 _)]at h
   rw[<-h];rfl
  have hr:R=(ps,0):=by rw[<-HR.out,adk h0]
  subst hr
  have HF:=ah (show wr.ownsRow w.heap.size 9 1 (.slice A k c) ps.length (ps.map ST) by
   have h:=HO.out;rw[ado (by rw[HN.out];exact ac4 _)]at h
   rw[HN.out]
   exact own_base h (by have:=HZ1.out;omega))
  clear he h0 hk;go_wp2
  go_ret2
  exact⟨_,rfl,HF.out,HB1.trans (HB.mono HB1.size)⟩
 |succ q=>
  have hkn:k<n:=by omega
  have dH:(k:Int)<n:=by omega
  obtain⟨p,hp⟩: ∃p,ps[k]?=some p:=⟨_,dF (by rw[HN.out];exact hkn)⟩
  have hdr:ps.drop k=p :: ps.drop (k+1):=by
   rw[aez (by rw[HN.out];exact hkn)]
   congr 1
   exact ad4 ((dF _).symm.trans hp)
  have htk:ps.take (k+1)=ps.take k++[p]:=by rw[ae3,hp];rfl
  have hpl:=fF.out p (adI hp)
  have hcell:wr.cell? ⟨w.heap.size,k,none⟩=some (ST p):=(HB.cell (p:=⟨w.heap.size,k,none⟩) bW.lt).trans (by
   have:=bW.cell k;rw[this]
   simp[hp])
  obtain⟨z,hz⟩:=aj (⟨p.toArray⟩:ByteArray);have hst:ST p=.string z:=by rw[<-hz];rfl
  have hzd:z.data.toList=p:=by rw[<-hz]
  have hzs:z.size<=1073741824:=by rw[Lib.size_eq,hzd];exact hpl
  rw[hst]at hcell;have hw:=he.out;rw[hdr,Tb.kT]at hw;obtain⟨g,hg⟩:=aj (Gr.bC p)
  have hgn:=Iu z wr hzs;rw[hzd,hg]at hgn;rw[hg]at hw
  have hcn:=ajL z wr HO.out (by omega)
  rw[hzd]at hcn;obtain⟨d,hd⟩:=aj (decide (p∈ps.take k):Bool);rw[hd]at hcn
  have dQ:=ah hgn;have qw:=ah hcn;have HW:=ah hw;have HD:=ah hd;have iG:=ah htk
  have HST:=ah hst;clear hp hdr htk hpl hz hst hzd hw hg hgn hcn hd he hk;go_wp2_with fail
  refine dQ.mono ?_;rintro e w2 ⟨rfl,rfl⟩;clear dQ;cases g with
  |false=>
   have hr:R=([],60):=by rw[<-HR.out,<-HW.out,adk rfl,ade (by decide)]
   subst hr;go_wp2
   go_ret2
   exact⟨_,rfl,World.ownsRow_nil _ _ _ _,HB1.trans (HB.mono HB1.size)⟩
  |true=>
  go_wp2_with fail;refine qw.mono ?_;rintro e w2 ⟨rfl,rfl⟩;clear qw;cases d with
  |true=>
   have hE:E=7:=by rw[<-HW.out,ade (by decide),adk (adN HD.out)]
   have hr:R=([],7):=by rw[<-HR.out,hE,ade (by decide)]
   subst hr;go_wp2
   go_ret2
   exact⟨_,rfl,World.ownsRow_nil _ _ _ _,HB1.trans (HB.mono HB1.size)⟩
  |false=>
  have hw2:=HW.out;rw[ade (by decide),ade (adM HD.out)]at hw2
  have HW2:=ah hw2;have hkb:k<1073741824:=by omega
  have hsz:=HB.size;clear hw2 HW HD
  go_wp2_with (at_builtin;refine fD rfl (.tmp 21) (.tmp 23) 34 9 (.string ⟨#[]⟩) 16 Tryz.underlying34 pR rfl (by decide) rfl W1.heap.size (.slice A k c) k ((ps.take k).map ST) wr rfl HO.out (.string z) rfl rfl hkb hsz ?_)
  intro v9 w9 aJ bI dD aB;obtain⟨A9,c9,rfl⟩:=aF aJ
  have fJ:=ah (show w9.ownsRow W1.heap.size 9 1 (.slice A9 (k+1) c9) (k+1) ((ps.take (k+1)).map ST) by rw[iG.out,ad8,aeR,afX,HST.out];first|exact aJ|(rw[<-aoV]at aJ;exact aJ))
  have bg:=ah (HB.trans aB);clear aJ bI dD aB hcell;go_wp2
  go_roundg q
  case measure=>omega
  exact⟨k+1,A9,c9,rfl,int_eq (by omega),by have:=HK.out;omega,bg.out,fJ.out,by rw[iG.out];exact HW2.out⟩
def Tb.su (acc:List Gr.P) (ks fs:List (List UInt8)):List Gr.P×Nat:=if(Tb.bM ks fs).2≠0 then([],(Tb.bM ks fs).2) else(acc ++(Tb.bM ks fs).1,0)
theorem Tb.abe: ∀(ks fs:List (List UInt8)),(Tb.bM ks fs).2≠0->(Tb.bM ks fs).1=[]
 |[],_,_=>rfl
 |k :: ks,[],_=>rfl
 |k :: ks,f :: fs,h=>by
  rw[Tb.bM]at h⊢
  split
  ·rename_i h1;rw[adk h1]at h;exact Tb.abe ks fs h
  rename_i h1;rw[ade h1]at h
  split
  ·rfl
  rename_i h2;rw[ade h2]at h
  split
  ·rfl
  rename_i h3;rw[ade h3]at h;exact absurd rfl h
theorem Tb.abf (ks fs:List (List UInt8)):Tb.su [] ks fs=Tb.bM ks fs:=by
 unfold Tb.su
 split
 ·rename_i h;exact anG (Tb.abe ks fs h).symm rfl
 rename_i h;have h0:(Tb.bM ks fs).2=0:=Classical.not_not.1 h;exact anG rfl h0.symm
theorem Tb.abg (acc:List Gr.P) (fs:List (List UInt8)):Tb.su acc [] fs=(acc,0):=by
 unfold Tb.su;rw[show Tb.bM [] fs=([],0) from rfl,ade (by simp),aey]
theorem Tb.abh {acc:List Gr.P} {k:List UInt8} {ks fs:List (List UInt8)}:Tb.su acc (k :: ks) ([] :: fs)=Tb.su acc ks fs:=by
 unfold Tb.su;rw[show Tb.bM (k :: ks) ([] :: fs)=Tb.bM ks fs by rw[Tb.bM,adk rfl]]
theorem Tb.abj {acc:List Gr.P} {k f:List UInt8} {ks fs:List (List UInt8)} (hf:f≠ []) (h:(ak.parse f).2≠0):Tb.su acc (k :: ks) (f :: fs)=([],(ak.parse f).2):=by
 unfold Tb.su
 rw[show Tb.bM (k :: ks) (f :: fs)=([],(ak.parse f).2) by rw[Tb.bM,ade hf,adk h],adk h]
theorem Tb.abk {acc:List Gr.P} {k f:List UInt8} {ks fs:List (List UInt8)} {v:ak.V} (hf:f≠ []) (h:ak.parse f=(v,0)):Tb.su acc (k :: ks) (f :: fs)=Tb.su (acc++[⟨k,v⟩]) ks fs:=by
 unfold Tb.su;by_cases h2:(Tb.bM ks fs).2≠0
 ·rw[show Tb.bM (k :: ks) (f :: fs)=([],(Tb.bM ks fs).2) by rw[Tb.bM,ade hf,h,ade (by simp),adk h2],adk h2,adk h2]
 rw[show Tb.bM (k :: ks) (f :: fs)=(⟨k,v⟩ ::(Tb.bM ks fs).1,0) by rw[Tb.bM,ade hf,h,ade (by simp),ade h2],ade (by simp),ade h2]
 simp
def ajU (R:List Gr.P×Nat) (w:World) (e:Ending) (w':World):Prop:=
 ∃v,e=.returned (.tuple #[v,.int .i64 (R.2:Nat)])/\cu 39 w' w.heap.size v R.1/\Below w.heap.size w w'
theorem wV {α:Type} {l:List α} {k:Nat} {a:α} (h:l[k]?=some a):l.drop k=a :: l.drop (k+1):=by
 obtain⟨hl,he⟩:=adw.1 h;rw[aez hl,he]
theorem abl (B:Nat) (Ak Af:Option Addr) (ck cf n:Nat) (keys fields:List (List UInt8)) (w:World) (hk:Reads w B 1 Ak n (keys.map ST)) (hf:Reads w B 1 Af n (fields.map ST)) (hn:n<=16777217)
  (hfs: ∀f∈fields,f.length<=16777216) (hB:B<=w.heap.size) (hL:Laid w):
  Calls Tryz.prog 31 #[.slice Ak n ck,.slice Af n cf] w (ajU (Tb.bM keys fields) w):=by
 obtain⟨R,hR⟩:=aj (Tb.bM keys fields);rw[hR];rw[<-Tb.abf]at hR;have hkl:=vk hk
 have hfl:=vk hf;have o9:=ah hk;have jB:=ah hf;have vP:=ah hkl;have AZ:=ah hfl
 have lZ:=ah hfs;have dh:=ah hB;have HL:=ah hL;have HR:=ah hR
 clear hk hf hkl hfl hfs hB hL hR;go_enter Tryz.func31,Tryz.ntmps31;go_wp2_with fail
 go_loopg [4,12] n (fun q x y wr=> ∃k:Nat,∃acc A c,x=.slice A acc.length c/\y=.int .i64 k/\k+q=n/\acc.length<=k/\Below w.heap.size w wr/\cu 39 wr w.heap.size (.slice A acc.length c) acc/\Hid (Tb.su acc (keys.drop k) (fields.drop k)=R))
 case atStart=>exact⟨0,[],none,0,rfl,rfl,by omega,ac4 _,Below.refl _ _,cu.nil _ _ _,HR.out⟩
 obtain⟨k,acc,A,c,rfl,rfl,hk,hal,hb,hp,he⟩:=hrel;have HB:=ah hb;have HP:=ah hp
 have HK:=ah hk;clear hb hp HR;cases gk with
 |zero=>
  obtain rfl:k=n:=by omega
  have hr:R=(acc,0):=by
   have h:=he.out;rw[aeJ (by rw[vP.out];exact ac4 _),Tb.abg]at h
   exact h.symm
  subst hr;clear he hk hal;go_wp2
  go_ret2
  exact⟨_,rfl,HP.out,HB.out⟩
 |succ q=>
  have hkn:k<n:=by omega
  have dH:(k:Int)<n:=by omega
  obtain⟨key,hky⟩: ∃p,keys[k]?=some p:=⟨_,dF (by rw[vP.out];exact hkn)⟩
  obtain⟨f,hf⟩: ∃p,fields[k]?=some p:=⟨_,dF (by rw[AZ.out];exact hkn)⟩
  obtain⟨b1,o1,rfl,hb1⟩:=o9.blk (by omega)
  obtain⟨b2,o2,rfl,hb2⟩:=jB.blk (by omega)
  have ck1:=(HB.cell (p:=⟨b1,o1+k,none⟩) (adW hb1 dh.out)).trans (o9.st hky)
  have Lu:=(HB.cell (p:=⟨b2,o2+k,none⟩) (adW hb2 dh.out)).trans (jB.st hf)
  obtain⟨zk,pq⟩:=aj (⟨key.toArray⟩:ByteArray);obtain⟨z,hz⟩:=aj (⟨f.toArray⟩:ByteArray)
  have e1:ST key=.string zk:=by rw[<-pq];rfl
  have e2:ST f=.string z:=by rw[<-hz];rfl
  have hzd:z.data.toList=f:=by rw[<-hz]
  rw[e1]at ck1;rw[e2]at Lu;have hg:=he.out;rw[wV hky,wV hf]at hg
  have hfl:=lZ.out f (adI hf);have Ba:=ah e1;have HG:=ah hg;have hb1':=adW hb1 dh.out
  clear he hg hky hf pq e1 e2 hk hb1 hb2;by_cases hf0:f=[]
  ·subst hf0
   have hz0:z=⟨#[]⟩:=hz.symm;subst hz0;have HG2:=ah (Tb.abh.symm.trans HG.out)
   clear HG hz hzd hfl;go_wp2
   go_roundg q
   case measure=>omega
   exact⟨k+1,acc,A,c,rfl,int_eq (by omega),by have:=HK.out;omega,by omega,HB.out,HP.out,HG2.out⟩
  have t0:z.toList.isEmpty=false:=by
   rw[Lib.toList_data,hzd];cases hc:f with
   |nil=>exact absurd hc hf0
   |cons a r=>rfl
  have hpc:=aio z wr (by rw[Lib.size_eq,hzd];omega) (HL.below HB.out)
  rw[hzd]at hpc;obtain⟨Q,hQ⟩:=aj (ak.parse f);obtain⟨v,ec⟩:=Q;rw[hQ]at hpc
  have qx:=ah hpc;have HQ:=ah hQ;have LC:=ah hf0;clear hpc hQ hz hzd hfl hf0
  go_wp2_with fail;refine qx.mono ?_;rintro e w6 ⟨u,rfl,hv6,hb6⟩
  obtain⟨s,t,rfl,F7,F8⟩:=hv6.ex;obtain⟨A1,c1,rfl⟩:=aF F7;obtain⟨A2,c2,rfl⟩:=aF F8
  have dO:=ah (HB.trans (hb6.mono HB.size));have xH:=HB.size
  obtain⟨W7,qV⟩:=aj (w6.alloc (.cells #[.int .i64 v.kind,.int .i64 v.num,.string ⟨v.text.toArray⟩,.slice A1 v.nums.length c1,.slice A2 v.texts.length c2] 37))
  have hb7:Below w6.heap.size w6 W7:=qV▸(Below.refl _ w6).alloc (ac4 _) _
  obtain⟨nd,hnd⟩:=aj w6.heap.size
  have I5:au W7 nd 37 #[.int .i64 v.kind,.int .i64 v.num,.string ⟨v.text.toArray⟩,.slice A1 v.nums.length c1,.slice A2 v.texts.length c2]:=by rw[<-qV,<-hnd];exact au.new _ _ _
  have hbd:Below wr.heap.size wr (W7.drewN 1):=below_drewN (hb6.trans (hb7.mono hb6.size)) 1
  have bD:=ah (HB.trans (hbd.mono HB.size))
  have F9: ∀{T:TypeId} {B0 sz m:Nat} {x:Value} {xs:List Value},w6.ownsRow B0 T sz x m xs->(W7.drewN 1).ownsRow B0 T sz x m xs:=fun h=>aW h (dL (below_drewN hb7 1) none) (fun g c t fz hr=>by cases hr)
  have VU:=ah (show fB (W7.drewN 1) w.heap.size (⟨key,v⟩,[ST key,.int .i64 v.kind,.int .i64 v.num,ST v.text,.slice A1 v.nums.length c1,.slice A2 v.texts.length c2]) from⟨_,_,rfl,own_base (F9 F7) xH,own_base (F9 F8) xH⟩)
  have LD:=(hbd.cell (p:=⟨b1,o1+k,none⟩) (adW hb1' xH)).trans ck1
  have sW:=ah (show W7.cell? ⟨b1,o1+k,none⟩=some (.string zk) from LD)
  have jC:=ah I5;obtain⟨l,h1,h2,h3⟩:=HP.out;obtain⟨al,hal2⟩:=aj acc.length
  have uH:(∀x∈l,fB (W7.drewN 1) w.heap.size x)/\(W7.drewN 1).ownsRow w.heap.size 39 6 (.slice A acc.length c) acc.length (l.flatMap Prod.snd):=
   ⟨fun x hx=>(h2 x hx).row (dL hbd none) (fun g c t fz hr=>by cases hr),aW h3 (dL hbd none) (fun g c t fz hr=>by cases hr)⟩
  have H1:=ah h1;have H2:=ah uH.1;have h3':=uH.2;rw[hal2]at h3' hal⊢;have H3:=ah h3'
  have lX:=ah hal2;have x9:al<536870912:=by omega
  have hszW:w.heap.size<=(W7.drewN 1).heap.size:=bD.size;have DU:=ah qV;have kZ:=ah hnd
  clear hv6 hb6 F7 F8 qV hb7 I5 hbd F9 LD h1 h2 h3 uH h3' hal2 ck1 Lu hnd HP qx
  go_upto_region 6 with fail
  rw[DU.out,kZ.out];clear DU kZ;obtain⟨d0,d1,d2,d3,d4⟩:=cells5 jC.out;by_cases qW:ec=0
  case neg=>
   have t1:((ec:Int) !=0)=true:=by rw[adY];omega
   have hr:R=([],ec):=by
    rw[<-HG.out,Tb.abj LC.out (by rw[HQ.out];exact qW),HQ.out]
   subst hr;clear qW;go_wp2
   go_ret2
   exact⟨_,rfl,cu.nil _ _ _,⟨bD.os,bD.tape,bD.out.output,bD.size,bD.block⟩⟩
  subst qW;have HG2:=ah ((Tb.abk LC.out HQ.out).symm.trans HG.out)
  obtain⟨zt,dU⟩:=aj (⟨v.text.toArray⟩:ByteArray)
  have hst:ST v.text=.string zt:=by rw[<-dU];rfl
  have VW:=ah hst;rw[dU]at d2;have VX:=sW.out;clear dU hst HG;go_wp2_with fail
  go_region_law (first|(refine JX rfl (.tmp 27) (.tmp 34) 40 39 (.agg #[.string ⟨#[]⟩,.int .i64 0,.int .i64 0,.string ⟨#[]⟩,.slice none 0 0,.slice none 0 0]) 6 96 Tryz.underlying40 aaP rfl (by decide) (by decide) rfl w.heap.size (.slice A al c) al (l.flatMap Prod.snd) (W7.drewN 1) rfl H3.out [.string zk,.int .i64 v.kind,.int .i64 v.num,.string zt,.slice A1 v.nums.length c1,.slice A2 v.texts.length c2] _ rfl rfl (by simp[Value.oneCell']) rfl x9 hszW ?_;intro v9 w9 aJ bI dD aB;obtain⟨A9,c9,rfl⟩:=aF aJ)|fail)
  all_goals
   have hpo:=VU.out;rw[Ba.out,VW.out]at hpo
   have VY:=ah (cu.put (T:=39) (v:=.slice A acc.length c) (v':=.slice A9 (al+1) c9) (ps:=acc) ⟨by decide,by decide⟩ H1.out H2.out hpo (by rw[lX.out];exact H3.out) (by rw[lX.out];exact bI) (by rw[lX.out];exact aJ))
   have bg:=ah (bD.trans aB)
   have LG:(acc++[(⟨key,v⟩:Gr.P)]).length=al+1:=by rw[adf,lX.out];rfl
   have HLEN:=ah LG;clear hpo aJ bI dD aB LG d0 d1 d2 d3 d4 VX;go_wp2
   go_roundg q
   case measure=>omega
   exact⟨k+1,acc++[⟨key,v⟩],A9,c9,by rw[HLEN.out],int_eq (by omega),by have:=HK.out;omega,by rw[HLEN.out];omega,bg.out,by rw[HLEN.out];exact VY.out,HG2⟩
end Go.Proofs.YtkdakckjafomhaaGreatDoor
namespace Go.Proofs.YtkdakckjafomhaaGreatDoor.fK
open Go
variable {α:Type} {le:α->α->Bool}
structure Tot (le:α->α->Bool):Prop where
 trans: ∀{a b c},le a b=true->le b c=true->le a c=true
 total: ∀{a b},le a b=false->le b a=true
abbrev bJ (le:α->α->Bool) (l:List α):Prop:=l.Pairwise (fun a b=>le a b=true)
theorem UD {A:List α} (_hT:Tot le) (h:bJ le A) {i:Nat} {x:α} (hx:A[i]?=some x) {z:α} (hz:z∈A.take (i+1)):z=x\/le z x=true:=by
 obtain⟨j,hj,rfl⟩:=afj hz;rw[List.getElem_take];rw[aeb]at hj;obtain⟨hi,hx⟩:=adw.1 hx
 rcases am5 j i with hlt|hge
 ·right
  rw[<-hx];exact af5.1 h j i (by omega) hi hlt
 left
 have:j=i:=by omega
 subst this;exact hx
theorem UE {A:List α} (_hT:Tot le) (h:bJ le A) {i:Nat} {x:α} (hx:A[i]?=some x) {z:α} (hz:z∈A.drop i):z=x\/le x z=true:=by
 obtain⟨j,hj,rfl⟩:=afj hz;rw[aor];rw[aej]at hj;obtain⟨hi,hx⟩:=adw.1 hx
 rcases afv j with rfl|hp
 ·left;simpa using hx
 right
 rw[<-hx];exact af5.1 h i (i+j) hi (by omega) (by omega)
theorem le_refl (hT:Tot le) (a:α):le a a=true:=by
 cases h:le a a with
 |true=>rfl
 |false=>have h':=hT.total h;rw[h]at h';exact h'
theorem Iz {a b:α} (hT:Tot le) (h:a=b\/le a b=true):le a b=true:=h.elim (fun e=>e▸le_refl hT _) id
theorem UF {A:List α} (h:bJ le A) (i:Nat): ∀x∈A.take i,∀y∈A.drop i,le x y=true:=by
 have h':=h;rw[<-aeN i A,bJ,amM]at h';exact h'.2.2
theorem abm {B:List α} {e:α} (hT:Tot le) (hB:bJ le B) {i:Nat} (h1:i=0\/ ∃x,B[i - 1]?=some x/\le x e=true) (h2:i=B.length\/ ∃y,B[i]?=some y/\le e y=true):bJ le (B.take i++e :: B.drop i):=by
 have hc:=UF hB i;have hs:=hB;rw[<-aeN i B,bJ,amM]at hs;obtain⟨ha,hb,-⟩:=hs;rw[bJ,amM]
 refine⟨ha,List.pairwise_cons.2 ⟨fun x hx=> ?_,hb⟩,fun x hx y hy=> ?_⟩
 ·rcases h2 with rfl|⟨y,hy,hey⟩
  ·simp at hx
  exact hT.trans hey (Iz hT ((UE hT hB hy hx).imp Eq.symm id))
 rcases aeY.1 hy with rfl|hy
 ·rcases h1 with rfl|⟨z,hz,hze⟩
  ·simp at hx
  rcases afv i with rfl|hp
  ·simp at hx
  refine hT.trans (Iz hT (UD hT hB hz (z:=x) ?_)) hze
  rwa [aqE hp]
 exact hc x hx y hy
theorem abn {B:List α} {e:α} (i:Nat):(B.take i++e :: B.drop i).Perm (e :: B):=by
 have:=List.perm_middle (a:=e) (l₁:=B.take i) (l₂:=B.drop i)
 rwa [aeN]at this
theorem ajV {A B S1 S2:List α} (hT:Tot le) (hA:bJ le A) (hB:bJ le B) {i j:Nat}
  (h1:i=0\/j=B.length\/ ∃x y,A[i - 1]?=some x/\B[j]?=some y/\le x y=true)
  (h2:i=A.length\/j=0\/ ∃x y,B[j - 1]?=some x/\A[i]?=some y/\le x y=true)
  (p1:S1.Perm (A.take i++B.take j)) (s1:bJ le S1) (p2:S2.Perm (A.drop i++B.drop j)) (s2:bJ le S2):bJ le (S1++S2)/\(S1++S2).Perm (A++B):=by
 constructor
 ·rw[bJ,amM]
  refine⟨s1,s2,fun x hx y hy=> ?_⟩
  have hx:=p1.mem_iff.1 hx;have hy:=p2.mem_iff.1 hy
  rcases aem.1 hx with hx|hx
  ·rcases aem.1 hy with hy|hy
   ·exact UF hA i x hx y hy
   rcases h1 with rfl|rfl|⟨u,v,hu,hv,huv⟩
   ·simp at hx
   ·simp at hy
   rcases afv i with rfl|hp
   ·simp at hx
   refine hT.trans (Iz hT (UD hT hA hu (z:=x) ?_)) (hT.trans huv (Iz hT ((UE hT hB hv hy).imp Eq.symm id)))
   rwa [aqE hp]
  rcases aem.1 hy with hy|hy
  ·rcases h2 with rfl|rfl|⟨u,v,hu,hv,huv⟩
   ·simp at hy
   ·simp at hx
   rcases afv j with rfl|hp
   ·simp at hx
   refine hT.trans (Iz hT (UD hT hB hu (z:=x) ?_)) (hT.trans huv (Iz hT ((UE hT hA hv hy).imp Eq.symm id)))
   rwa [aqE hp]
  exact UF hB j x hx y hy
 refine(p1.append p2).trans ?_
 have e1:A++B=(A.take i++A.drop i) ++(B.take j++B.drop j):=by rw[aeN,aeN]
 rw[e1,aeG,aeG];refine List.Perm.append_left _ ?_;rw[<-aeG,<-aeG]
 exact List.Perm.append_right _ List.perm_append_comm
end Go.Proofs.YtkdakckjafomhaaGreatDoor.fK
