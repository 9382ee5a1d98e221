/- Contracts and plain laws,part 32. -/
import Derived.Test.YtoofbflplhbpbaaGreatDoorBK24
import Derived.Test.YtoofbflplhbpbaaGreatDoorBK31
set_option maxHeartbeats 64000000
set_option maxRecDepth 1000000
set_option linter.all false
namespace Go.Proofs.YtoofbflplhbpbaaGreatDoor
open Go.RowKit Go.Sort
theorem iY {β:Type} {V:World} {base T k n c i j:Nat} {A:Option Addr} {l1 l2:List (β×List Value)} {x:β} {cs:List Value} (h:V.ownsRow base T k (.slice A n c) n ((l1 ++(x,cs) :: l2).flatMap Prod.snd)) (h1: ∀y∈l1,y.2.length=k) (hi:l1.length=i) (hc:cs.length=k) (hn:i<n) (hj:j<k):
  ∃g,A=some ⟨g,0,none⟩∧base≤g∧V.cell? ⟨g,i*k+j,none⟩=cs[j]?∧V.frozen? ⟨g,i*k+j,none⟩=false∧ ∀u,(V.setCell ⟨g,i*k+j,none⟩ u).ownsRow base T k (.slice A n c) n ((l1 ++(x,cs.set j u) :: l2).flatMap Prod.snd):=by
 have ht:i*k+j<n*k:=by have:=Nat.mul_le_mul_right k (show i+1≤n from hn);rw [Nat.succ_mul] at this;omega
 obtain ⟨g,hA,hg,hcell,hf,hs⟩:=jQ h ht
 have hlen:=oh (f:=Prod.snd) h1
 refine ⟨g,hA,hg, ?_,hf,fun u=> ?_⟩
 ·rw [hcell,List.flatMap_append,List.flatMap_cons,List.getElem?_append_right (by rw [hlen,hi];omega),hlen,hi,Nat.add_sub_cancel_left,List.getElem?_append_left (by rw [hc];exact hj)]
 ·have:=hs u
  rw [←hi] at this⊢
  rwa [MX h1 (by rw [hc];exact hj)] at this
theorem aK.kept {w w':World} {B:Nat} {x:Gr.P×List Value} {e' n' size':Nat} {r:Value} {ys:List Value} (h:aK w B x) (hg:w.grownBy w' r.ownBlock) (hr:w.ownsRow B e' size' r n' ys) (h1:e'≠2) (h2:e'≠9):aK w' B x:=by
 obtain ⟨s,t,e,o1,o2⟩:=h
 exact ⟨s,t,e,jZ o1 hg hr h1,jZ o2 hg hr h2⟩
theorem aK.D7 {w w':World} {B:Nat} {x:Gr.P×List Value} (h:aK w B x) (hb:Below w.heap.size w w'):aK w' B x:=by
 obtain ⟨s,t,e,o1,o2⟩:=h
 exact ⟨s,t,e,own_below o1 hb,own_below o2 hb⟩
theorem aK.len {w:World} {B:Nat} {x:Gr.P×List Value} (h:aK w B x):x.2.length=6:=by
 obtain ⟨s,t,e,-,-⟩:=h
 rw [e];rfl
theorem aB.len {w:World} {B:Nat} {p:Gr.P} {cs:List Value} (h:aB w B p cs):cs.length=6:=by
 obtain ⟨An,cn,At,ct,e,-,-⟩:=h
 rw [e];rfl
structure CoS (w:World) (B:Nat) (ps:List Gr.P) (A:Option Addr) (n c i:Nat) (V:World):Prop where
 ex: ∃l1 l2:List (Gr.P×List Value),l1.length=i∧(l1 ++ l2).map Prod.fst=ps∧(∀x∈l1,aK V w.heap.size x)∧(∀x∈l2,aB w B x.1 x.2)∧V.ownsRow w.heap.size 61 6 (.slice A n c) n ((l1 ++ l2).flatMap Prod.snd)
 bel:Below w.heap.size w V
theorem NI {w:World} {B:Nat} {x:Gr.P×List Value} (h:aK w B x): ∃e:EP,iK e=x.2∧e.1=x.1.key:=by
 obtain ⟨s,t,e,h1,h2⟩:=h
 obtain ⟨As,cs,rfl⟩:=ak h1
 obtain ⟨At,ct,rfl⟩:=ak h2
 exact ⟨(x.1.key,x.1.val.kind,x.1.val.num,x.1.val.text,(As,x.1.val.nums.length,cs),(At,x.1.val.texts.length,ct)),e.symm,rfl⟩
theorem CoS.sorted {w V:World} {B n c g:Nat} {ps:List Gr.P} (h:CoS w B ps (some ⟨g,0,none⟩) n c n V) (hn:ps.length=n) (hd:(ps.map Gr.P.key).Nodup): ∃d:Array EP,d.size=n∧RowK iK 6 V g 0 d∧
  ∀V' d',d'.size=n→SWK iK 6 V g 0 d' V'→Stb.Srt leP d'.toList→d'.toList.Perm d.toList→aC 61 V' w.heap.size (.slice (some ⟨g,0,none⟩) n c) (Gr.iG ps)∧Below w.heap.size w V':=by
 obtain ⟨l1,l2,h1,h2,h3,-,h5⟩:=h.ex
 have hl2:l2= []:=by
  have:=congrArg List.length h2
  rw [List.length_map,List.length_append,h1,hn] at this
  exact List.eq_nil_of_length_eq_zero (by omega)
 subst hl2
 rw [List.append_nil] at h2 h5
 obtain ⟨q,q1,q2⟩:=qN (enc:=iK) (ka:=fun e:EP=>e.1) (kb:=Gr.P.key) (fun x hx=>NI (h3 x hx))
 have hq:q.length=n:=by rw [←h1,←q1,List.length_map]
 have e1:=qO (enc:=iK) (fun y hy=>(q2 y hy).1)
 rw [q1] at e1
 have hk: ∀x,(iK x).length=6:=fun x=>rfl
 refine ⟨(q.map Prod.snd).toArray,by simp [hq],vV hk (fun x v hv=> ?_) (by rw [List.toList_toArray,e1];exact h5) (by simp [hq]),fun V' d' hs S hsrt hp=> ?_⟩
 ·simp only [iK,List.mem_cons,List.not_mem_nil,or_false] at hv
  rcases hv with rfl | rfl | rfl | rfl | rfl | rfl<;> rfl
 ·obtain ⟨o1,o2⟩:=vW hk h5 hs S
  rw [List.toList_toArray] at hp
  obtain ⟨l',p1,p2,p3⟩:=vZ vY (ka:=fun e:EP=>e.1) q1 q2 hp hsrt (by rw [h2];exact hd)
  rw [h2] at p3
  have hlen:(Gr.iG ps).length=n:=by rw [←hn];exact (List.mergeSort_perm _ _).length_eq
  refine ⟨⟨l',p3,fun x hx=>(h3 x (p1.mem_iff.1 hx)).kept (r:= .slice (some ⟨g,0,none⟩) n c) o2 h5 (by decide) (by decide),by rw [hlen,←p2];exact o1⟩,h.bel.grown o2 h.bel.size (fun k hk=>(World.ownsRow.lt h5 k hk).1)⟩
theorem D8 (B:Nat) (A:Option Addr) (c:Nat) (ps:List Gr.P) (w:World) (h:Lst w B 6 (aB w B) A ps) (hB:B≤w.heap.size) (hl:ps.length≤1073741824) (hok: ∀p∈ps,POk p) (hd:(ps.map Gr.P.key).Nodup):
  Calls Tryz.prog 97 #[.slice A ps.length c] w fun e w'=> ∃v',e= .returned v'∧aC 61 w' w.heap.size v' (Gr.iG ps)∧Below w.heap.size w w':=by
 obtain ⟨lp,hp1,hp2,hr⟩:=h.pairs
 obtain ⟨n,hn⟩: ∃n,ps.length=n:=⟨_,rfl⟩
 have hone: ∀u∈lp.flatMap Prod.snd,u.oneCell'=true:=fun u hu=>by
  obtain ⟨x,hx,hu⟩:=List.mem_flatMap.1 hu
  obtain ⟨⟨An,cn,At,ct,e,-,-⟩,-⟩:=hp2 x hx
  rw [e] at hu
  simp only [List.mem_cons,List.not_mem_nil,or_false] at hu
  rcases hu with rfl | rfl | rfl | rfl | rfl | rfl<;> rfl
 rw [hn] at hr hl⊢
 have HCL:=hq7 (Nz B A c n _ w hr hone hl hB)
 have HP1:=hq7 hp1
 have HP2:=hq7 hp2
 have HN:=hq7 hn
 have HOK:=hq7 hok
 have HD:=hq7 hd
 have hBw:=hB
 clear h hone hr hp1 hp2 hn hok hd
 go_enter Tryz.func97,Tryz.ntmps97
 go_wp2_with fail
 refine HCL.out.mono ?_
 rintro e w1 ⟨v1,rfl,ho,hb⟩
 obtain ⟨A1,c1,rfl⟩:=ak ho
 have HS:=hq7 (show CoS w B ps A1 n c1 0 w1 from ⟨⟨[],lp,rfl,HP1.out,by simp,fun x hx=>(HP2.out x hx).1,ho⟩,hb⟩)
 clear ho hb HCL
 go_wp2_with fail
 go_loopg [9] n (fun kx s9 wr=> ∃i:Nat,s9= .int .i64 i∧i+kx=n∧CoS w B ps A1 n c1 i wr)
 case atStart=>exact ⟨0,rfl,by omega,HS.out⟩
 case round=>
  obtain ⟨i,rfl,hk,hs⟩:=hrel
  have HR:=hq7 hs
  clear hs HS
  cases gk with
  | zero=>
   obtain rfl:i=n:=by omega
   cases A1 with
   | none=>
    obtain ⟨l1,l2,h1,h2,-,-,h5⟩:=HR.out.ex
    rcases h5.2 with ⟨e,h0⟩ |⟨g,cap,cur,e,-⟩
    ·cases e
     have hp0:ps= []:=List.eq_nil_of_length_eq_zero HN.out
     subst hp0
     go_wp2_with fail
     refine (Ns _ _ _ _).mono ?_
     rintro e w' ⟨rfl,rfl⟩
     go_wp2
     go_ret
     exact ⟨_,rfl,by rw [show Gr.iG []= [] from List.mergeSort_nil];exact aC.nil _ _ _,HR.out.bel⟩
    ·cases e
   | some a=>
    obtain ⟨g,rfl⟩: ∃g,a=⟨g,0,none⟩:=by
     obtain ⟨l1,l2,h1,h2,-,-,h5⟩:=HR.out.ex
     rcases h5.2 with ⟨e,h0⟩ |⟨g,cap,cur,e,-⟩
     ·cases e
     ·cases e;exact ⟨g,rfl⟩
    obtain ⟨d,d1,d2,d3⟩:=HR.out.sorted HN.out HD.out
    have HSO:=hq7 (Nr (cap:=c1) d2 d1 hl)
    have HD3:=hq7 d3
    clear d1 d2 d3
    go_wp2_with fail
    refine HSO.out.mono ?_
    rintro e w' ⟨rfl,d',h1,h2,h3,h4⟩
    have HF:=hq7 (HD3.out w' d' h1 h2 h3 h4)
    clear h1 h2 h3 h4
    go_wp2
    go_ret
    exact ⟨_,rfl,HF.out⟩
  | succ kq=>
   have hin:i<n:=by omega
   have hinI:(i:Int)<(n:Int):=by omega
   obtain ⟨l1,l2,h1,h2,h3,h4,h5⟩:=HR.out.ex
   have hbel:=HR.out.bel
   obtain ⟨⟨p,cs⟩,l3,rfl⟩: ∃x l3,l2=x :: l3:=by
    cases l2 with
    | nil=>
     have:=congrArg List.length h2
     rw [List.append_nil,List.length_map,h1,HN.out] at this
     omega
    | cons x r=>exact ⟨x,r,rfl⟩
   obtain ⟨An,cn,At,ct,rfl,ra1,ra2⟩:=(show aB w B p cs from h4 (p,cs) (List.mem_cons_self ..))
   have pok:=HOK.out p (by rw [←h2];simp)
   have hpl: ∀y∈l1,y.2.length=6:=fun y hy=>(h3 y hy).len
   obtain ⟨nl,hnl⟩: ∃x,p.val.nums.length=x:=⟨_,rfl⟩
   obtain ⟨tl,htl⟩: ∃x,p.val.texts.length=x:=⟨_,rfl⟩
   have hnl2:nl≤1073741824:=hnl▸pok.val.nl
   have htl2:tl≤1073741824:=htl▸pok.val.sl
   rw [hnl] at ra1 h5
   rw [htl] at ra2 h5
   have hw1:w.heap.size≤wr.heap.size:=hbel.size
   obtain ⟨g,rfl,hg,c4,f4,-⟩:=iY (j:=4) h5 hpl h1 rfl hin (by decide)
   simp only [List.getElem?_cons_succ,List.getElem?_cons_zero] at c4
   have HC1:=hq7 (Ny B An cn nl _ wr (ra1.below (hbel.mono hBw)) (fun u hu=>by obtain ⟨y,-,rfl⟩:=List.mem_map.1 hu;rfl) hnl2 (Nat.le_trans hBw hw1))
   have HH:=hq7 (And.intro h1 (And.intro h2 (And.intro h3 (And.intro h4 (And.intro hpl (And.intro hnl htl))))))
   have H5:=hq7 h5
   have HRA:=hq7 ra2
   have HG:=hq7 hg
   have HB:=hq7 hbel
   clear h1 h2 h3 h4 h5 hpl hnl htl ra1 ra2 hg HR hbel pok
   go_wp2_with fail
   refine HC1.out.mono ?_
   rintro e w2 ⟨v2,rfl,o2,b2⟩
   obtain ⟨A2,c2,rfl⟩:=ak o2
   have hh:=HH.out
   have r2:=own_below H5.out b2
   obtain ⟨g',e',-,c4',f4',st4⟩:=iY (j:=4) r2 hh.2.2.2.2.1 hh.1 rfl hin (by decide)
   cases e'
   simp only [List.getElem?_cons_succ,List.getElem?_cons_zero] at c4'
   have row3:=st4 (.slice A2 nl c2)
   simp only [List.set_cons_succ,List.set_cons_zero] at row3
   obtain ⟨W3,hW3⟩: ∃x,w2.setCell ⟨g,i*6+4,none⟩ (.slice A2 nl c2)=x:=⟨_,rfl⟩
   have hgs:w2.grownBy W3 (some g):=hW3▸grownBy_set w2 ⟨g,i*6+4,none⟩ _
   rw [hW3] at row3
   have b3:Below w.heap.size w W3:=hW3▸(HB.out.trans (b2.mono hw1)).setCell HG.out _
   obtain ⟨g',e',-,c5,f5,-⟩:=iY (j:=5) row3 hh.2.2.2.2.1 hh.1 rfl hin (by decide)
   cases e'
   simp only [List.getElem?_cons_succ,List.getElem?_cons_zero] at c5
   have HC2:=hq7 (DX B At ct tl _ W3 (HRA.out.below (b3.mono hBw)) (fun u hu=>by obtain ⟨y,-,rfl⟩:=List.mem_map.1 hu;rfl) htl2 (Nat.le_trans hBw b3.size))
   have o3:=jZ (x:= .slice (some ⟨g,0,none⟩) n c1) (dM o2 hw1) hgs r2 (by decide)
   have hp3: ∀x∈l1,aK W3 w.heap.size x:=fun x hx=>((hh.2.2.1 x hx).D7 b2).kept (r:= .slice (some ⟨g,0,none⟩) n c1) hgs r2 (by decide) (by decide)
   have HX:=hq7 (And.intro row3 (And.intro o3 (And.intro hp3 b3)))
   have HH4:=hq7 hh
   clear o2 b2 r2 st4 hgs row3 b3 o3 hp3 hh HH H5 HRA HB HC1
   go_wp2_with fail
   refine HC2.out.mono ?_
   rintro e w4 ⟨v4,rfl,o4,b4⟩
   obtain ⟨A4,c6,rfl⟩:=ak o4
   clear hW3
   obtain ⟨row3,o3,hp3,b3⟩:=HX.out
   have hh:=HH4.out
   have r4:=own_below row3 b4
   obtain ⟨g',e',-,c7,f7,st5⟩:=iY (j:=5) r4 hh.2.2.2.2.1 hh.1 rfl hin (by decide)
   cases e'
   simp only [List.getElem?_cons_succ,List.getElem?_cons_zero] at c7
   have row5:=st5 (.slice A4 tl c6)
   simp only [List.set_cons_succ,List.set_cons_zero] at row5
   obtain ⟨W5,hW5⟩: ∃x,w4.setCell ⟨g,i*6+5,none⟩ (.slice A4 tl c6)=x:=⟨_,rfl⟩
   have hgs:w4.grownBy W5 (some g):=hW5▸grownBy_set w4 ⟨g,i*6+5,none⟩ _
   rw [hW5] at row5
   have b5:Below w.heap.size w W5:=hW5▸(b3.trans (b4.mono b3.size)).setCell HG.out _
   have o5:=jZ (x:= .slice (some ⟨g,0,none⟩) n c1) (dM o4 b3.size) hgs r4 (by decide)
   have o6:=jZ (x:= .slice (some ⟨g,0,none⟩) n c1) (own_below o3 b4) hgs r4 (by decide)
   have hs:=hq7 (show CoS w B ps (some ⟨g,0,none⟩) n c1 (i+1) W5 from by
    refine ⟨⟨l1 ++ [(p, [ST p.key, .int .i64 p.val.kind, .int .i64 p.val.num,ST p.val.text, .slice A2 nl c2, .slice A4 tl c6])],l3,by simp [hh.1],by simpa using hh.2.1,fun x hx=> ?_,fun x hx=>hh.2.2.2.1 x (List.mem_cons_of_mem _ hx),by simpa using row5⟩,b5⟩
    rcases List.mem_append.1 hx with hx | hx
    ·exact ((hp3 x hx).D7 b4).kept (r:= .slice (some ⟨g,0,none⟩) n c1) hgs r4 (by decide) (by decide)
    ·rw [List.mem_singleton.1 hx]
     refine ⟨_,_,rfl, ?_, ?_⟩
     ·show W5.ownsRow w.heap.size 2 1 (.slice A2 nl c2) p.val.nums.length (p.val.nums.map I64)
      rw [hh.2.2.2.2.2.1];exact o6
     ·show W5.ownsRow w.heap.size 9 1 (.slice A4 tl c6) p.val.texts.length (p.val.texts.map ST)
      rw [hh.2.2.2.2.2.2];exact o5)
   clear o4 b4 HX hh r4 st5 row5 hgs b5 o5 o6 row3 o3 hp3 b3 HH4 HC2
   go_wp2_with fail
   go_roundg kq
   case measure=>omega
   case rel=>exact ⟨i+1,by simp,by omega,hs.out⟩
end Go.Proofs.YtoofbflplhbpbaaGreatDoor
