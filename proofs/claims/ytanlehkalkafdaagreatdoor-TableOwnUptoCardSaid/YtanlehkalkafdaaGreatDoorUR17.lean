/- Contracts and plain laws,part 17. -/
import Derived.Test.YtanlehkalkafdaaGreatDoorUR16
import Derived.Lib.SplitLaws
import Derived.Lib.Join
import Derived.Shelf.Spec.SearchS
set_option maxHeartbeats 64000000
set_option maxRecDepth 1000000
set_option linter.all false
namespace Go.Proofs.YtanlehkalkafdaaGreatDoor.Tb
open Go
structure Fits (k:Nat) (s:Csv.St):Prop where
 f:s.field.length<=k
 r:s.row.length<=k/\ ∀f∈s.row,f.length<=k
 rs: ∀r∈s.rows,r.length<=k+1/\ ∀f∈r,f.length<=k
theorem Fits.step {k:Nat} {s s':Csv.St} {c:UInt8} (h:Fits k s) (hs:Csv.step s c=.inl s'):Fits (k+1) s':=by
 have hf:=h.f;have hr:=h.r.1;have h1: ∀f∈s.row,f.length<=k+1:=fun f hf=>BR (h.r.2 f hf)
 have h2: ∀r∈s.rows,r.length<=k+1+1/\ ∀f∈r,f.length<=k+1:=fun r hr=>⟨BR (h.rs r hr).1,fun f hf=>BR ((h.rs r hr).2 f hf)⟩
 unfold Csv.step at hs
 split at hs
 ·split at hs
  ·cases hs
   refine⟨by simp,⟨by simp,by simp⟩,fun r hm=> ?_⟩
   rcases tZ.1 hm with hm|hm
   ·exact h2 r hm
   rw[ug.1 hm];exact⟨by omega,h1⟩
  cases hs
 split at hs
 ·split at hs
  ·cases hs;exact⟨by show s.field.length<=k+1;omega,⟨by show s.row.length<=k+1;omega,h1⟩,h2⟩
  cases hs;exact⟨by simp;omega,⟨by show s.row.length<=k+1;omega,h1⟩,h2⟩
 split at hs
 ·split at hs
  ·cases hs
  cases hs;refine⟨?_,⟨by show s.row.length<=k+1;omega,h1⟩,h2⟩
  show(if s.st=3 then s.field++[c] else s.field).length<=k+1
  split
  ·rw[rP,uh];omega
  omega
 split at hs
 ·cases hs
  refine⟨by simp,⟨by simp;omega,fun f hm=> ?_⟩,h2⟩
  rcases tZ.1 hm with hm|hm
  ·exact h1 f hm
  rw[ug.1 hm];omega
 split at hs
 ·cases hs
 split at hs
 ·cases hs
 cases hs;exact⟨by simp;omega,⟨by show s.row.length<=k+1;omega,h1⟩,h2⟩
theorem Fits.read: ∀(l:L) (k:Nat) (s:Csv.St),Fits k s-> ∀r∈(Csv.read s l).1,r.length<=k+l.length+1/\ ∀f∈r,f.length<=k+l.length
 |[],k,s,h=>by
  have hr:=h.r;have hs:=h.rs;have hf:=h.f;rw[Csv.read];unfold Csv.fin
  have h3: ∀r∈s.rows++[s.row++[s.field]],r.length<=k+1/\ ∀f∈r,f.length<=k:=fun r hm=>by
   rcases tZ.1 hm with hm|hm
   ·exact hs r hm
   rw[ug.1 hm];refine⟨by simp;omega,fun f hm=> ?_⟩
   rcases tZ.1 hm with hm|hm
   ·exact hr.2 f hm
   rw[ug.1 hm];exact hf
  split
  ·exact hs
  split
  ·exact hs
  split
  ·exact h3
  exact hs
 |c :: l,k,s,h=>by
  rw[Csv.read];cases hs:Csv.step s c with
  |inl s'=>
   have:=Fits.read l (k+1) s' (h.step hs)
   rw[sS,show k+(l.length+1)=k+1+l.length by omega]
   exact this
  |inr e=>
   intro r hm;have:=h.rs r hm;rw[sS]
   exact⟨by omega,fun f hf=>rV (this.2 f hf) (by omega)⟩
theorem rows_fit (l:L): ∀r∈(Csv.rowsOf l).1,r.length<=l.length+1/\ ∀f∈r,f.length<=l.length:=by
 rw[Csv.rowsOf_read]
 have:=Fits.read l 0 ⟨0,[],[],[]⟩ ⟨by simp,⟨by simp,by simp⟩,by simp⟩
 simpa using this
theorem known_range {m n:Int} {s:L} (h:known m s=some n):0<=n/\n<m:=by
 unfold known at h
 split at h
 ·rename_i hc;cases h;exact hc.2
 cases h
theorem names_fine: ∀(ls seen:List L),namesWrong seen ls=0-> ∀l∈ls,Gr.goodName l=true
 |[],_,_,_,hl=>by cases hl
 |a :: r,seen,h,l,hl=>by
  rw[namesWrong]at h
  split at h
  ·cases h
  rename_i hg
  split at h
  ·cases h
  rcases uD.1 hl with e|hl
  ·rw[e];simpa using hg
  exact names_fine r _ h l hl
theorem split_len: ∀s:L,(splitS s).length<=s.length+1
 |[]=>by simp[splitS]
 |c :: r=>by
  have:=split_len r;rw[splitS]
  split
  ·simp;omega
  split
  ·simp
  rename_i a t he;rw[he]at this;simp only[sS]at this⊢;omega
theorem split_sum: ∀s:L,((splitS s).map List.length).sum+(splitS s).length=s.length+1
 |[]=>rfl
 |c :: r=>by
  have ih:=split_sum r;rw[splitS]
  split
  ·simp only[tV,vO,sS,uO];omega
  split
  ·rename_i he;exact absurd he (split_ne r)
  rename_i a t he;rw[he]at ih;simp only[tV,vO,sS]at ih⊢;omega
theorem sum_ge: ∀l:List L,(∀a∈l,a≠ [])->l.length<=(l.map List.length).sum
 |[],_=>by simp
 |a :: r,h=>by
  have:=sum_ge r fun x hx=>h x (uQ _ hx)
  have:=uS.2 (h a (by simp))
  rw[tV,vO,sS];omega
theorem goodName_40 {s:L} (h:Gr.goodName s=true):s.length<=40:=by
 unfold Gr.goodName at h;simp only[uy,tX]at h;exact h.1.1.2
theorem labels_fine {s:L} {ls:List L} (h:labelsP s=(ls,0)):(∀l∈ls,l.length<=40)/\2*ls.length<=s.length+1:=by
 unfold labelsP at h
 split at h
 ·cases h;simp
 split at h
 ·rename_i hn
  cases h;have h1:=split_sum s
  have h2:=sum_ge (splitS s) fun l hl=>(good_no (names_fine _ _ hn l hl)).1
  exact⟨fun l hl=>goodName_40 (names_fine _ _ hn l hl),by omega⟩
 rename_i hn;rw[uZ]at h;exact absurd h.2 hn
theorem cel_sz {s:L} {v:Cel.V} (h:Cel.parse s=(v,0)):Cy.VSz v:=by
 obtain⟨hc,-,hn,hns⟩:=Cel.one h;obtain⟨p1,p2,-,p4,p5,p6,p7,-⟩:=Cel.check_parts hc
 refine⟨⟨p1,p2⟩,hn,hns,by omega,by omega,by omega,fun t ht=> ?_⟩
 unfold Cel.longs at p7;rw[yX]at p7;have:=p7 t ht;simp only[tX]at this;omega
theorem props_fine: ∀(ks fs:List L) (ps:List Gr.P),propsP ks fs=(ps,0)->(∀k∈ks,k.length<=16777216)->(∀p∈ps,Cy.PSz p)/\ps.length<=fs.length
 |[],fs,ps,h,_=>by simp only[propsP]at h;cases h;simp
 |k :: ks,[],ps,h,_=>by simp only[propsP]at h;cases h;simp
 |k :: ks,f :: fs,ps,h,hk=>by
  have ih:=fun qs hq=>props_fine ks fs qs hq fun k hm=>hk k (uQ _ hm)
  rw[propsP]at h
  split at h
  ·have:=ih ps h
   exact⟨this.1,by rw[sS];omega⟩
  split at h
  ·rename_i hc;rw[uZ]at h;exact absurd h.2 hc
  rename_i hc
  split at h
  ·rename_i hq;rw[uZ]at h;exact absurd h.2 hq
  rename_i hq;cases h;have:=ih _ (xW rfl (Decidable.not_not.1 hq))
  refine⟨fun p hp=> ?_,by rw[sS,sS];exact Nat.succ_le_succ this.2⟩
  rcases uD.1 hp with e|hp
  ·rw[e]
   exact⟨hk k (by simp),cel_sz (v:=(Cel.parse f).1) (xW rfl (Decidable.not_not.1 hc))⟩
  exact this.1 p hp
theorem props_keys: ∀(ks fs:List L) (ps:List Gr.P),propsP ks fs=(ps,0)->(ps.map Gr.P.key).Sublist ks
 |[],fs,ps,h=>by simp only[propsP]at h;cases h;simp
 |k :: ks,[],ps,h=>by simp only[propsP]at h;cases h;simp
 |k :: ks,f :: fs,ps,h=>by
  rw[propsP]at h
  split at h
  ·exact(props_keys ks fs ps h).cons _
  split at h
  ·rename_i hc;rw[uZ]at h;exact absurd h.2 hc
  split at h
  ·rename_i hq;rw[uZ]at h;exact absurd h.2 hq
  rename_i hq;cases h
  exact(props_keys ks fs _ (xW rfl (Decidable.not_not.1 hq))).cons_cons _
structure Ns (ns:List Gr.N):Prop where
 sz: ∀n∈ns,Cy.NSz n/\(n.props.map Gr.P.key).Nodup
 nd:(ns.map Gr.N.id).Nodup
structure Rs (ns:List Gr.R):Prop where
 sz: ∀n∈ns,Cy.RSz n/\(n.props.map Gr.P.key).Nodup
 nd:(ns.map Gr.R.id).Nodup
def Row (r:List L):Prop:=r.length<=16777217/\ ∀f∈r,f.length<=16777216
theorem getD_len {r:List L} (h:Row r) (i:Nat):(r.getD i []).length<=16777216:=by
 rw[yu];cases hi:r[i]? with
 |none=>simp
 |some f=>exact h.2 f (sK hi)
theorem nodes_sz {ks:List L} (hk: ∀k∈ks,k.length<=16777216) (hd:ks.Nodup) {w:Nat}: ∀(rows:List (List L)) (acc ns:List Gr.N),nodesP ks w rows acc=(ns,0)->(∀r∈rows,Row r)->Ns acc->Ns ns
 |[],acc,ns,h,_,ha=>by rw[nodesP]at h;cases h;exact ha
 |row :: r,acc,ns,h,hr,ha=>by
  rw[nodesP]at h
  split at h
  ·cases h
  cases hn:known 1024 (row.getD 0 []) with
  |none=>rw[hn]at h;cases h
  |some n=>
   rw[hn]at h;simp only at h
   split at h
   ·cases h
   rename_i hid
   split at h
   ·rename_i hc;rw[uZ]at h;exact absurd h.2 hc
   rename_i hl
   split at h
   ·rename_i hc;rw[uZ]at h;exact absurd h.2 hc
   rename_i hp;have hrow:=hr row (by simp)
   have h1:=labels_fine (s:=row.getD 1 []) (ls:=(labelsP (row.getD 1 [])).1) (xW rfl (Decidable.not_not.1 hl))
   have h2:=props_fine ks (row.drop 2) (propsP ks (row.drop 2)).1 (xW rfl (Decidable.not_not.1 hp)) hk
   have h3:=props_keys ks (row.drop 2) (propsP ks (row.drop 2)).1 (xW rfl (Decidable.not_not.1 hp))
   have hg:=known_range hn;have hlen:=getD_len hrow 1
   refine nodes_sz hk hd r _ ns h (fun x hx=>hr x (uQ _ hx)) ⟨fun x hx=> ?_, ?_⟩
   ·rcases tZ.1 hx with hx|hx
    ·exact ha.sz x hx
    rw[ug.1 hx]
    refine⟨⟨hg.1,hg.2,by show(labelsP (row.getD 1 [])).1.length<=16777216;omega,fun l hl=>rV (h1.1 l hl) (by decide), ?_,h2.1⟩,h3.nodup hd⟩
    show(propsP ks (row.drop 2)).1.length<=16777216
    have:=h2.2;rw[uJ]at this;have:=hrow.1;omega
   rw[uf];exact Cy.nodup_snoc ha.nd hid
theorem end_range {ids:List Int} {n:Int} {s:L} (h:endP ids s=some n):0<=n/\n<1024:=by
 unfold endP at h;cases hk:known 1024 s with
 |none=>rw[hk]at h;cases h
 |some m=>
  rw[hk]at h;simp only at h
  split at h
  ·cases h;exact known_range hk
  cases h
theorem rels_sz {ks:List L} (hk: ∀k∈ks,k.length<=16777216) (hd:ks.Nodup) {w:Nat} {ids:List Int}: ∀(rows:List (List L)) (acc ns:List Gr.R),relsP ks w ids rows acc=(ns,0)->(∀r∈rows,Row r)->Rs acc->Rs ns
 |[],acc,ns,h,_,ha=>by rw[relsP]at h;cases h;exact ha
 |row :: r,acc,ns,h,hr,ha=>by
  rw[relsP]at h
  split at h
  ·cases h
  cases hn:known 2048 (row.getD 0 []) with
  |none=>rw[hn]at h;cases h
  |some n=>
   rw[hn]at h;simp only at h
   split at h
   ·cases h
   rename_i hid;cases hs:endP ids (row.getD 1 []) with
   |none=>rw[hs]at h;cases h
   |some a=>
    cases ht:endP ids (row.getD 2 []) with
    |none=>rw[hs,ht]at h;cases h
    |some b=>
     rw[hs,ht]at h;simp only at h
     split at h
     ·cases h
     rename_i hgn
     split at h
     ·rename_i hc;rw[uZ]at h;exact absurd h.2 hc
     rename_i hp;have hrow:=hr row (by simp)
     have h2:=props_fine ks (row.drop 4) (propsP ks (row.drop 4)).1 (xW rfl (Decidable.not_not.1 hp)) hk
     have h3:=props_keys ks (row.drop 4) (propsP ks (row.drop 4)).1 (xW rfl (Decidable.not_not.1 hp))
     have hg:=known_range hn
     refine rels_sz hk hd r _ ns h (fun x hx=>hr x (uQ _ hx)) ⟨fun x hx=> ?_, ?_⟩
     ·rcases tZ.1 hx with hx|hx
      ·exact ha.sz x hx
      rw[ug.1 hx]
      refine⟨⟨hg.1,hg.2,getD_len hrow 3,end_range hs,end_range ht, ?_,h2.1⟩,h3.nodup hd⟩
      show(propsP ks (row.drop 4)).1.length<=16777216
      have:=h2.2;rw[uJ]at this;have:=hrow.1;omega
     rw[uf];exact Cy.nodup_snoc ha.nd hid
theorem head_keys {want:List L} {rows:List (List L)} {ks:List L} (h:headP want rows=some ks):(∀k∈ks,k.length<=16777216)/\ks.Nodup:=by
 unfold headP at h
 split at h
 ·cases h
 split at h
 ·rename_i hc
  cases h;exact⟨fun k hk=>rV (goodName_40 (wC.1 hc.2.1 k hk)) (by decide),hc.2.2⟩
 cases h
theorem nodesOf_sz {rows:List (List L)} {ns:List Gr.N} (h:nodesOf rows=(ns,0)) (hr: ∀r∈rows,Row r):Ns ns:=by
 unfold nodesOf at h
 split at h
 ·cases h
 rename_i ks hk;have:=head_keys hk
 exact nodes_sz this.1 this.2 _ _ _ h (fun r hm=>hr r (List.mem_of_mem_tail hm)) ⟨by simp,by simp⟩
theorem relsOf_sz {ids:List Int} {rows:List (List L)} {ns:List Gr.R} (h:relsOf ids rows=(ns,0)) (hr: ∀r∈rows,Row r):Rs ns:=by
 unfold relsOf at h
 split at h
 ·cases h
 rename_i ks hk;have:=head_keys hk
 exact rels_sz this.1 this.2 _ _ _ h (fun r hm=>hr r (List.mem_of_mem_tail hm)) ⟨by simp,by simp⟩
theorem rows_row {l:L} (h:l.length<=16777216): ∀r∈(Csv.rowsOf l).1,Row r:=fun r hr=>by
 have:=rows_fit l r hr;exact⟨by omega,fun f hf=>rV (this.2 f hf) h⟩
theorem made_sz {ns:List Gr.N} {rs:List Gr.R} (hn:Ns ns) (hr:Rs rs):Cy.GSz ⟨ns,rs⟩:=⟨fun n h=>(hn.sz n h).1,fun n h=>(hr.sz n h).1,hn.nd,hr.nd⟩
theorem parse_sz {a b:L} {g:Gr.G} {e:Nat} (h:parse a b=(g,e)):Cy.GSz g/\(e=0->Cy.Fine g)/\(e≠0->g=Gr.G0):=by
 have hg0: ∀{e:Nat},e≠0->Cy.GSz Gr.G0/\(e=0->Cy.Fine Gr.G0)/\(e≠0->Gr.G0=Gr.G0):=fun he=>⟨Cy.G0_sz,fun h=>absurd h he,fun _=>rfl⟩
 unfold parse at h
 split at h
 ·cases h;exact hg0 (by decide)
 rename_i hlen
 split at h
 ·rename_i hc;cases h;exact hg0 hc
 split at h
 ·rename_i hc;cases h;exact hg0 hc
 split at h
 ·rename_i hc;cases h;exact hg0 hc
 rename_i hn
 split at h
 ·rename_i hc;cases h;exact hg0 hc
 rename_i hr
 split at h
 ·rename_i hc;cases h;exact hg0 hc
 rename_i hc;cases h
 have h1:=nodesOf_sz (rows:=(Csv.rowsOf a).1) (xW rfl (Decidable.not_not.1 hn)) (rows_row (by omega))
 have h2:=relsOf_sz (ids:=(nodesOf (Csv.rowsOf a).1).1.map Gr.N.id) (rows:=(Csv.rowsOf b).1) (xW rfl (Decidable.not_not.1 hr)) (rows_row (by omega))
 have hsz:=Cy.canon_sz (made_sz h1 h2)
 refine⟨hsz,fun _=>⟨Gr.check_good.1 (Decidable.not_not.1 hc),fun p hp=> ?_⟩,fun e=>absurd rfl e⟩
 unfold Gr.allProps at hp
 have hv:Cy.VSz p.val:=by
  rcases tZ.1 hp with hp|hp
  ·obtain⟨n,hn,hq⟩:=uF.1 hp
   exact((hsz.ns n hn).ps p hq).val
  obtain⟨n,hn,hq⟩:=uF.1 hp;exact((hsz.rs n hn).ps p hq).val
 exact⟨hv.num,hv.nums⟩
end Go.Proofs.YtanlehkalkafdaaGreatDoor.Tb
namespace Go.Proofs.YtanlehkalkafdaaGreatDoor
open Go.RowKit
theorem split_59: ∀s:List UInt8,Lib.splitK [59] 0 (Lib.count s [59]) s=Tb.splitS s
 |[]=>rfl
 |c :: r=>by
  have ih:=split_59 r;by_cases hc:c=59
  ·subst hc
   have h0:Lib.index (59 :: r) [59]=((0:Nat):Int):=by simp[Lib.index]
   rw[Lib.count_hit (by simp) h0]
   show Lib.splitK [59] 0 (1+Lib.count r [59]) (59 :: r)=_
   rw[x8,Lib.splitK,h0,rU (by decide),Tb.splitS,rY rfl]
   show[] :: Lib.splitK [59] 0 (Lib.count r [59]) r=_
   rw[ih]
  have hp:([59]:List UInt8).isPrefixOf (c :: r)=false:=by
   have:(59 == c)=false:=rX.2 fun e=>hc e.symm
   simp[List.isPrefixOf,this]
  have hI:Lib.index (c :: r) [59]=if Lib.index r [59] == -1 then -1 else Lib.index r [59]+1:=by rw[Lib.index,hp];rfl
  rw[Tb.splitS,rU hc]
  rcases Lib.index_spec r [59] with⟨h1,-⟩|⟨i,h1,-⟩
  ·rw[h1,rY (by decide)]at hI
   rw[Lib.count_miss hI];rw[Lib.count_miss h1]at ih;rw[<-ih];rfl
  rw[h1,rU (by rw[uw];omega)]at hI
  have hI':Lib.index (c :: r) [59]=((i+1:Nat):Int):=by rw[hI];omega
  rw[Lib.count_hit (by simp) hI']
  rw[Lib.count_hit (by simp) h1,x8,Lib.splitK,h1,rU (by rw[uw];omega)]at ih
  rw[<-ih,x8,Lib.splitK,hI',rU (by rw[uw];omega)]
  simp
theorem splitB_59 (s:ByteArray):(Lib.splitB ⟨#[59]⟩ 0 (Lib.countB s ⟨#[59]⟩) s).map (·.data.toList)=Tb.splitS s.data.toList:=by
 rw[Lib.splitB_data];exact split_59 _
theorem map_data (f:List ByteArray) (l:List (List UInt8)) (h:f.map (·.data.toList)=l):f.map Value.string=l.map ST:=by
 subst h;rw[vV]
 apply xA
 intro x _;rfl
theorem splitB_ST (s:ByteArray):(Lib.splitB ⟨#[59]⟩ 0 (Lib.countB s ⟨#[59]⟩) s).map Value.string=(Tb.splitS s.data.toList).map ST:=map_data _ _ (splitB_59 s)
theorem splitB_len (s:ByteArray):Lib.countB s ⟨#[59]⟩+1=(Tb.splitS s.data.toList).length:=by
 rw[<-splitB_59,sU,Lib.splitB_all _ (by decide) 0 _ s rfl]
theorem join_59: ∀l:List (List UInt8),Lib.join l [59]=Tb.joinS l
 |[]=>rfl
 |[a]=>Lib.join_one _ _
 |a :: b :: r=>by
  have ih:=join_59 (b :: r);rw[Lib.join_cons]at ih⊢;rw[Tb.joinS,<-ih]
  simp[Lib.joinTail]
theorem search_key {keys:List (List UInt8)} (hs:keys.Pairwise (· < ·)) {k:List UInt8} {i n:Nat} (hk:keys[i]?=some k) (hn:keys.length=n):
  Lib.bsGo (fun t=>Op.bytesLess ((fun t=>(⟨(keys.getD t k).toArray⟩:ByteArray)) t).toList (⟨k.toArray⟩:ByteArray).toList) n 0 n=i:=by
 obtain⟨hi,hki⟩:=rZ.1 hk;have hp:=wO.1 hs
 refine Lib.bsGo_spec _ i (fun t ht=> ?_) (fun t ht=> ?_) n 0 n (by omega) (wG _) (by omega)
 ·have hg:keys.getD t k=keys[t]'(by omega):=by simp[List.getD,ay (show t<keys.length by omega)]
  have:=hp t i (by omega) hi ht
  rw[hki]at this
  show Op.bytesLess (⟨(keys.getD t k).toArray⟩:ByteArray).toList _=true
  rw[st_toList,st_toList,bytesLess_lt,hg];exact rQ this
 show Op.bytesLess (⟨(keys.getD t k).toArray⟩:ByteArray).toList _=false
 rw[st_toList,st_toList,bytesLess_lt];refine rO fun hlt=> ?_
 by_cases htl:t<keys.length
 ·have hg:keys.getD t k=keys[t]:=by simp[List.getD,ay htl]
  rw[hg]at hlt
  rcases Nat.lt_or_eq_of_le ht with h|h
  ·have:=hp i t hi htl h
   rw[hki]at this;exact zh k (CS this hlt)
  subst h;rw[hki]at hlt;exact zh k hlt
 have hg:keys.getD t k=k:=by simp[List.getD,vJ (show keys.length<=t by omega)]
 rw[hg]at hlt;exact zh k hlt
theorem keys_lt (ps:List Gr.P):(Tb.keysOf ps).Pairwise (· < ·):=((Tb.keys_sorted ps).and (Tb.keys_nodup ps)).imp fun h=>(Bc.1 (sQ h.1)).elim id fun e=>absurd e h.2
theorem fieldOf_new {ps:List Gr.P} {p:Gr.P} (h:p.key∉ps.map Gr.P.key):Tb.fieldOf (ps++[p]) p.key=Cel.print p.val:=by
 unfold Tb.fieldOf
 have:ps.find? (fun q=>decide (q.key=p.key))=none:=BK.2 fun q hq=>by
  simp only[tX];exact fun e=>h (by rw[<-e];exact uX hq)
 rw[BU,this];simp
theorem fieldOf_old {ps:List Gr.P} {p:Gr.P} {k:List UInt8} (h:k≠p.key):Tb.fieldOf (ps++[p]) k=Tb.fieldOf ps k:=by
 unfold Tb.fieldOf;rw[BU];cases hf:ps.find? (fun q=>decide (q.key=k)) with
 |some q=>rfl
 |none=>
  have hne: ¬p.key=k:=fun e=>h e.symm
  simp[hne]
theorem fields_set {keys:List (List UInt8)} (hn:keys.Nodup) {ps:List Gr.P} {p:Gr.P} {i:Nat} (hi:keys[i]?=some p.key) (hp:p.key∉ps.map Gr.P.key):
  (keys.map (Tb.fieldOf ps)).set i (Cel.print p.val)=keys.map (Tb.fieldOf (ps++[p])):=by
 apply yZ
 intro j;rw[List.getElem?_set];by_cases hj:i=j
 ·subst hj
  obtain⟨h1,-⟩:=rZ.1 hi;rw[rY rfl,rY (by simpa using h1),tu,hi,vg,fieldOf_new hp]
 rw[rU hj,tu,tu];cases hk:keys[j]? with
 |none=>rfl
 |some k=>
  rw[vg,vg,fieldOf_old];intro e;subst e;obtain⟨h1,h2⟩:=rZ.1 hi;obtain⟨h3,h4⟩:=rZ.1 hk
  exact hj ((List.getElem_inj (h₀:=h1) (h₁:=h3) hn).1 (h2.trans h4.symm))
theorem fields_nil (keys:List (List UInt8)):keys.map (Tb.fieldOf [])=List.replicate keys.length []:=by
 rw[List.eq_replicate_iff];exact⟨by simp,fun b hb=>by obtain⟨k,-,rfl⟩:=uU.1 hb;rfl⟩
theorem Reads.drop {w:World} {B n k b off:Nat} {xs:List Value} (h:Reads w B 1 (some ⟨b,off,none⟩) n xs) (hk:k<=n):Reads w B 1 (some ⟨b,off+k,none⟩) (n - k) (xs.drop k):=by
 refine⟨by rw[uJ,h.1];omega,fun h0=> ?_⟩
 obtain⟨b',off',e,hb,hc⟩:=h.2 (by omega)
 cases e;exact⟨b,off+k,rfl,hb,fun j u hu=>by rw[zO]at hu;rw[wV];exact hc _ _ hu⟩
theorem Rows2.at {w:World} {B k:Nat} {A:Option Addr} {n c:Nat} {rows:List (List Csv.F)} {r:List Csv.F} (h:Rows2 w B (.slice A n c) rows) (hk:rows[k]?=some r):
  ∃b off Ar cr,A=some ⟨b,off,none⟩/\b<B/\w.cell? ⟨b,off+k,none⟩=some (.slice Ar r.length cr)/\r.length<=cr/\cr<=maxLen/\Reads w B 1 Ar r.length (r.map ST):=by
 obtain⟨A',c',us,e,-,-,hul,hA,hr⟩:=h
 injection e with e1 e2 e3
 subst e1;obtain⟨hkl,-⟩:=rZ.1 hk;obtain⟨b,off,u,e,hb,hu,hc⟩:=hA.at_ hkl
 obtain⟨Ar,cr,rfl,h1,h2,h3⟩:=hr k u r hu hk;exact⟨b,off,Ar,cr,e,hb,hc,h1,h2,h3⟩
theorem Rows2.form {w:World} {B:Nat} {v:Value} {rows:List (List Csv.F)} (h:Rows2 w B v rows): ∃A c,v=.slice A rows.length c/\rows.length<=c/\c<=maxLen:=by
 obtain⟨A',c',us,e,h1,h2,-⟩:=h;exact⟨A',c',e,h1,h2⟩
theorem Reads.blk {w:World} {B n:Nat} {A:Option Addr} {xs:List Value} (h:Reads w B 1 A n xs) (hn:0<n): ∃b off,A=some ⟨b,off,none⟩/\b<B:=by
 obtain⟨b,off,e,hb,-⟩:=h.2 hn;exact⟨b,off,e,hb⟩
theorem Reads.st {w:World} {B n k b off:Nat} {l:List (List UInt8)} {f:List UInt8} (h:Reads w B 1 (some ⟨b,off,none⟩) n (l.map ST)) (hk:l[k]?=some f):w.cell? ⟨b,off+k,none⟩=some (ST f):=by
 have hn:l.length=n:=by have:=h.1;rw[sU]at this;omega
 obtain⟨hkl,-⟩:=rZ.1 hk;obtain⟨b',off',e,-,hc⟩:=h.2 (by omega)
 cases e;exact hc k (ST f) (by rw[tu,hk];rfl)
def RowsO (W:World) (B:Nat) (v:Value) (rows:List (List (List UInt8))):Prop:=
 ∃us:List Value,us.length=rows.length/\W.ownsRow B 45 1 v rows.length us/\ ∀(k:Nat) u r,us[k]?=some u->rows[k]?=some r->W.ownsRow B 9 1 u r.length (r.map ST)
theorem RowsO.below {W W':World} {B:Nat} {v:Value} {rows:List (List (List UInt8))} (h:RowsO W B v rows) (hb:Below W.heap.size W W'):RowsO W' B v rows:=by
 obtain⟨us,h1,h2,h3⟩:=h
 exact⟨us,h1,own_kept_ty h2 (only_of_below hb none) (fun g c t fz hr=>by cases hr),fun k u r hu hr=>own_kept_ty (h3 k u r hu hr) (only_of_below hb none) (fun g c t fz hr=>by cases hr)⟩
theorem RowsO.put {W W':World} {B:Nat} {v v' u:Value} {rows:List (List (List UInt8))} {r:List (List UInt8)} {us:List Value} (h1:us.length=rows.length) (h2:W.ownsRow B 45 1 v rows.length us)
  (h3: ∀(k:Nat) u r,us[k]?=some u->rows[k]?=some r->W.ownsRow B 9 1 u r.length (r.map ST)) (hu:W.ownsRow B 9 1 u r.length (r.map ST)) (hg:W.grownBy W' v.ownBlock)
  (ho:W'.ownsRow B 45 1 v' (rows.length+1) (us++[u])):RowsO W' B v' (rows++[r]):=by
 have hty: ∀g c t fz,v.ownBlock=some g->W.heap[g]?=some (.cells c t fz)->t≠9:=fun g c t fz hr hc=>by
  obtain⟨-,c',hc'⟩:=own_blocks h2 g hr;rw[hc']at hc;cases hc
  decide
 refine⟨us++[u],by simp[h1],by simpa using ho,fun k x y hx hy=> ?_⟩
 by_cases hk:k<us.length
 ·rw[uN hk]at hx
  rw[uN (by omega)]at hy
  exact own_kept_ty (h3 k x y hx hy) hg hty
 rw[uI (by omega)]at hx
 rw[uI (by omega)]at hy
 have hk0:k - us.length=0:=by
  have:=(rZ.1 hx).1
  simpa using this
 rw[hk0]at hx;rw[<-h1,hk0]at hy;simp at hx hy;subst hx hy;exact own_kept_ty hu hg hty
theorem RowsO.rows2 {W:World} {B:Nat} {v:Value} {rows:List (List (List UInt8))} (h:RowsO W B v rows):Rows2 W W.heap.size v rows:=by
 obtain⟨us,h1,h2,h3⟩:=h
 rcases h2.2 with⟨rfl,hn⟩|⟨g,cap,cur,rfl,hb,hg,q1,q2,q3⟩
 ·have hr:rows=[]:=sH hn
  subst hr;have hu:us=[]:=sH h1;subst hu
  exact⟨none,0,[],rfl,by simp,by unfold maxLen;omega,rfl,Reads.none_,fun k u r hu=>by simp at hu⟩
 exact⟨_,cap,us,rfl,q1,q2,h1,Reads.of_own (c:=cap) h2,fun k u r hu hr=>Row1.of_own (h3 k u r hu hr)⟩
def BA (l:List UInt8):ByteArray:=⟨l.toArray⟩
theorem BA_map {x y:List (List UInt8)}:x.map BA=y.map BA↔x=y:=⟨fun h=>by
 have:=uo (List.map fun b:ByteArray=>b.data.toList) h
 simpa[BA,Function.comp_def] using this,fun h=>h▸rfl⟩
theorem BA_data (z:ByteArray):BA z.data.toList=z:=rfl
theorem reads_getD {w:World} {B b o n:Nat} {l:List (List UInt8)} (h:Reads w B 1 (some ⟨b,o,none⟩) n (l.map ST)): ∀j,j<(l.map BA).length->w.cell? ⟨b,o+j,none⟩=some (.string ((l.map BA).getD j ByteArray.empty)):=by
 intro j hj;have hjl:j<l.length:=by simpa using hj
 rw[h.st (ay hjl)];simp[List.getD,hjl,ST,BA]
theorem reads_len {w:World} {B n:Nat} {A:Option Addr} {l:List (List UInt8)} (h:Reads w B 1 A n (l.map ST)):l.length=n:=by
 have:=h.1;rw[sU]at this;omega
theorem split_any (s:ByteArray) (w:World) (hs:s.size<=1073741824) (hL:Laid w):
  Calls Tryz.prog 21 #[.string s,.string ⟨#[59]⟩] w fun e w'=>e=.returned (.slice (some ⟨w.heap.size,0,none⟩) (Tb.splitS s.data.toList).length (Tb.splitS s.data.toList).length)/\w.alloc (.cells ((Tb.splitS s.data.toList).map ST).toArray 9)=w':=by
 obtain⟨m,hm⟩:=hL.max;have h:=Tryz.strings_Split s ⟨#[59]⟩ m w (by omega) hm (by decide)
 rw[splitB_ST,splitB_len]at h;exact h.mono fun e w' ⟨he,hw⟩=>⟨he,hw.symm⟩
theorem oG {base k c:Nat} {A:Option Addr} {l:List (List UInt8)} (z:ByteArray) (w:World) (h:w.ownsRow base 9 1 (.slice A k c) k (l.map ST)) (hk:k<=1073741824):
  Calls Tryz.prog 116 #[.slice A k c,.string z] w fun e w'=>e=.returned (.bool (decide (z.data.toList∈l)))/\w=w':=by
 have hr:=Reads.of_own h;have hl:=reads_len hr;by_cases h0:k=0
 ·subst h0
  obtain rfl:l=[]:=zT.1 hl
  exact(Tryz.slices_Contains_string_empty A c z w).mono fun e w' ⟨he,hw⟩=>⟨by simpa using he,hw.symm⟩
 obtain⟨b,o,rfl,-⟩:=hr.blk (by omega)
 have h1:=Tryz.slices_Contains_string b o k c (l.map BA) z w (by simp[hl]) (by omega) (reads_getD hr)
 have e:Lib.containsS ((l.map BA).take k) z=decide (z.data.toList∈l):=by
  rw[sG (by simp[hl]),wJ,Lib.containsS_iff,tX]
  constructor
  ·intro h;obtain⟨x,hx,e⟩:=uU.1 h;rw[<-e];exact hx
  intro h;rw[<-BA_data z];exact uX h
 rw[e]at h1;exact h1.mono fun e w' ⟨he,hw⟩=>⟨he,hw.symm⟩
theorem equal_any {B1 B2 b1 o1 c b2 o2 d m:Nat} {xs ys:List (List UInt8)} (w:World) (hx:Reads w B1 1 (some ⟨b1,o1,none⟩) m (xs.map ST)) (hy:Reads w B2 1 (some ⟨b2,o2,none⟩) m (ys.map ST)) (hm:m<=1073741824):
  Calls Tryz.prog 114 #[.slice (some ⟨b1,o1,none⟩) m c,.slice (some ⟨b2,o2,none⟩) m d] w fun e w'=>e=.returned (.bool (decide (xs=ys)))/\Below w.heap.size w w':=by
 have l1:=reads_len hx;have l2:=reads_len hy
 have h:=Tryz.slices_Equal_string b1 o1 m c b2 o2 m d (xs.map BA) (ys.map BA) w (by simp[l1]) (by simp[l2]) (by omega) (by omega) (reads_getD hx) (reads_getD hy)
 rw[sG (by simp[l1]),sG (by simp[l2])]at h
 have e:decide (xs.map BA=ys.map BA)=decide (xs=ys):=by rw[wJ];simp only[tX,BA_map]
 rw[e]at h
 exact h.mono fun e w' ⟨he,q,hw⟩=>⟨he,by rw[hw];exact below_drewN (Below.refl _ _) q⟩
def bsRen:Go.Shelf.Ren:=⟨fun|26=>56|33=>102|34=>103|38=>141|n=>n,fun|24=>45|40=>155|9=>9|4=>4|3=>3|n=>n,fun|n=>n⟩
theorem oH:Lays2.n26 Tryz.prog bsRen:={
 mixed:=by kernel_rfl
 f26:=Tryz.func56.trans (uo some (by kernel_rfl))
 f33:=Tryz.func102.trans (uo some (by kernel_rfl))
 f34:=Tryz.func103.trans (uo some (by kernel_rfl))
 f38:=Tryz.func141.trans (uo some (by kernel_rfl))
 t0:=Tryz.underlying0
 a0:=Tryz.isAgg0
 z0:=Tryz.sizeOf0
 v0:=Tryz.zeroValue0
 t3:=Tryz.underlying3
 a3:=Tryz.isAgg3
 z3:=Tryz.sizeOf3
 v3:=Tryz.zeroValue3
 t4:=Tryz.underlying4
 a4:=Tryz.isAgg4
 z4:=Tryz.sizeOf4
 v4:=Tryz.zeroValue4
 t9:=Tryz.underlying9
 a9:=Tryz.isAgg9
 z9:=Tryz.sizeOf9
 v9:=Tryz.zeroValue9
 t24:=Tryz.underlying45
 a24:=Tryz.isAgg45
 z24:=Tryz.sizeOf45
 v24:=Tryz.zeroValue45
 t40:=Tryz.underlying155
 a40:=Tryz.isAgg155
 z40:=Tryz.sizeOf155
 v40:=Tryz.zeroValue155}
theorem oI {B n c i:Nat} {A:Option Addr} {keys:List (List UInt8)} {k:List UInt8} (w:World) (h:Reads w B 1 A n (keys.map ST)) (hs:keys.Pairwise (· < ·)) (hk:keys[i]?=some k) (hn:n<=1073741824):
  Calls Tryz.prog 56 #[.slice A n c,.string ⟨k.toArray⟩] w fun e w'=> ∃t,e=.returned (.tuple #[.int .i64 i,.bool t])/\Below w.heap.size w w':=by
 have hl:=reads_len h;obtain⟨hi,-⟩:=rZ.1 hk;obtain⟨b,o,rfl,-⟩:=h.blk (by omega)
 have h1:=Any2.slices_BinarySearch_string oH b o n c (fun t=>(⟨(keys.getD t k).toArray⟩:ByteArray)) ⟨k.toArray⟩ w (by omega) (fun j hj=>by
  have hjl:j<keys.length:=by omega
  rw[h.st (ay hjl)]
  simp[List.getD,hjl,ST])
 rw[search_key hs hk hl]at h1
 exact h1.mono fun e w' ⟨he,q,hw⟩=>⟨_,he,by rw[hw];exact below_drewN (Below.refl _ _) q⟩
theorem joinL_any {base n c:Nat} {A:Option Addr} {l:List (List UInt8)} (w:World) (h:w.ownsRow base 9 1 (.slice A n c) n (l.map ST)) (hn:n<=1073741824) (hl:(Tb.joinS l).length<=140737488355328):
  Calls Tryz.prog 23 #[.slice A n c,.string ⟨#[59]⟩] w fun e w'=>e=.returned (.string ⟨(Tb.joinS l).toArray⟩)/\Below w.heap.size w w':=by
 have hr:=Reads.of_own h;have hll:=reads_len hr
 rcases h.2 with⟨he,h0⟩|⟨g,cap,cur,he,h1,h2,h3,h4,h5,h6⟩
 ·subst h0
  obtain rfl:l=[]:=zT.1 hll
  injection he with e1 e2 e3
  subst e1 e3
  exact(Tryz.strings_Join_none none 0 ⟨#[59]⟩ w).mono fun e w' ⟨he,hw⟩=>⟨he,hw▸Below.refl _ _⟩
 injection he with e1 e2 e3
 subst e1 e3;have hm:(l.map BA).map (·.data.toList)=l:=by simp[BA,Function.comp_def]
 obtain⟨hi,-⟩:=sW.1 h2
 have key:=Tryz.strings_Join g 0 c (l.map BA) ⟨#[59]⟩ w (fun j x hx=>by
  rw[tu]at hx;obtain⟨y,hy,rfl⟩:=uP.1 hx
  exact hr.st hy) hi (by rw[sU];omega) (by rw[sU];omega) (by rw[hm];show(Lib.join l [59]).length<=_;rw[join_59];exact hl)
 rw[sU,hll,hm]at key
 rw[show Lib.join l (⟨#[59]⟩:ByteArray).data.toList=Tb.joinS l from join_59 l]at key
 exact key
theorem tbId_any (n:Int) (w:World) (h0: -9223372036854775808<=n) (h1:n<=9223372036854775807) (hL:Laid w):
  Calls Tryz.prog 22 #[.int .i64 n] w fun e w'=>e=.returned (.string ⟨(Lib.itoa n).toArray⟩)/\Below w.heap.size w w':=by
 have H:=ah (fmtInt_any n w h0 h1 hL);clear hL h0 h1;go_enter Tryz.func22,Tryz.ntmps22
 go_wp2_with fail;refine H.out.mono ?_;rintro e w1 ⟨rfl,hb⟩;have HB:=ah hb;clear hb;go_wp2
 go_ret;exact⟨rfl,HB.out⟩
def KnRes (o:Option Int) (w:World) (e:Ending) (w':World):Prop:=
 ∃x b,e=.returned (.tuple #[.int .i64 x,.bool b])/\Below w.heap.size w w'/\b=o.isSome/\ ∀n,o=some n->x=n
theorem known_any (s:ByteArray) (m:Int) (w:World) (hs:s.size<=1073741824) (hL:Laid w):
  Calls Tryz.prog 67 #[.string s,.int .i64 m] w (KnRes (Tb.known m s.data.toList) w):=by
 have hp:=parseInt_any s w hs hL;obtain⟨o,ho⟩:=aj (Tb.known m s.data.toList);rw[ho]
 unfold Tb.known at ho;obtain⟨q,hq⟩:=aj (Num.parseInt s.data.toList);obtain⟨x,e0⟩:=q
 rw[hq]at hp ho;simp only at ho;have HP:=ah hp;have HO:=ah ho;clear hp ho hq hL hs
 go_enter Tryz.func67,Tryz.ntmps67;go_wp2_with fail;refine HP.mono ?_;rintro e w1 ⟨rfl,hb⟩
 have HB:=ah hb;clear hb HP;by_cases h0:e0=0
 ·subst h0
  by_cases h1:0<=x
  ·by_cases h2:x<m
   ·have HR:=ah (show o=some x by rw[<-HO.out,rY ⟨rfl,h1,h2⟩])
    have t2:decide (x<m)=true:=rQ h2;clear HO;go_wp2
    go_ret2
    exact⟨x,_,rfl,HB.out,by rw[HR.out];first|rfl|exact t2,fun n hn=>by rw[HR.out]at hn;exact tN hn⟩
   have HR:=ah (show o=none by rw[<-HO.out,rU (fun h=>h2 h.2.2)])
   have h2':m<=x:=by omega
   have t2:decide (x<m)=false:=rO h2;clear HO h2;go_wp2
   go_ret2
   exact⟨x,_,rfl,HB.out,by rw[HR.out];first|rfl|exact t2,fun n hn=>by rw[HR.out]at hn;cases hn⟩
  have HR:=ah (show o=none by rw[<-HO.out,rU (fun h=>h1 h.2.1)])
  have h1':x<0:=by omega
  clear HO h1;go_wp2
  go_ret2
  exact⟨x,false,rfl,HB.out,by rw[HR.out];rfl,fun n hn=>by rw[HR.out]at hn;cases hn⟩
 have HR:=ah (show o=none by rw[<-HO.out,rU (fun h=>h0 h.1)])
 have t:((e0:Int) == 0)=false:=by rw[rX];omega
 clear HO h0;go_wp2
 go_ret2
 exact⟨x,false,rfl,HB.out,by rw[HR.out];rfl,fun n hn=>by rw[HR.out]at hn;cases hn⟩
end Go.Proofs.YtanlehkalkafdaaGreatDoor
