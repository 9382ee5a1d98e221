/- Contracts and plain laws,part 24. -/
import Derived.Test.YtoofbflplhbpbaaGreatDoorBK23
import Derived.RegionDies
set_option maxHeartbeats 64000000
set_option maxRecDepth 1000000
set_option linter.all false
namespace Go.Proofs.YtoofbflplhbpbaaGreatDoor
open Go.RowKit
theorem aC.form {T:TypeId} {W:World} {B:Nat} {v:Value} {ps:List Gr.P} (h:aC T W B v ps): ∃A c,v= .slice A ps.length c:=by
 obtain ⟨l,-,-,h3⟩:=h
 exact ak h3
structure aO (w:World) (b:Nat) (f wd ot:ByteArray) (ns:List (List UInt8)) (ps:List Gr.P) (V:World):Prop where
 ex: ∃sn sp,Blk V w.heap.size 102 #[.string f, .string wd, .string ot,sn,sp]∧V.ownsRow (w.heap.size+1) 9 1 sn ns.length (ns.map ST)∧aC 212 V (w.heap.size+1) sp ps
 gr:w.grownBy V (some b)
theorem aO.lt {w V:World} {b:Nat} {f wd ot:ByteArray} {ns:List (List UInt8)} {ps:List Gr.P} (h:aO w b f wd ot ns ps V):w.heap.size<V.heap.size:=by
 obtain ⟨sn,sp,h1,-⟩:=h.ex
 exact h1.lt
theorem aO.step {w V V':World} {b:Nat} {f wd ot:ByteArray} {ns:List (List UInt8)} {ps:List Gr.P} (h:aO w b f wd ot ns ps V) (hb:b<w.heap.size) (hg:V.grownBy V' (some b)):aO w b f wd ot ns ps V':=by
 obtain ⟨sn,sp,h1,h2,h3⟩:=h.ex
 exact ⟨⟨sn,sp,h1.grown hg (fun e=>by have:=Option.some.inj e;omega),bG h2 hg (by omega),h3.step hg (by omega)⟩,aT h.gr hg⟩
theorem aO.cells {w V:World} {b:Nat} {f wd ot:ByteArray} {ns:List (List UInt8)} {ps:List Gr.P} (h:aO w b f wd ot ns ps V): ∃A1 c1 A2 c2,Blk V w.heap.size 102 #[.string f, .string wd, .string ot, .slice A1 ns.length c1, .slice A2 ps.length c2]∧
  V.ownsRow (w.heap.size+1) 9 1 (.slice A1 ns.length c1) ns.length (ns.map ST)∧aC 212 V (w.heap.size+1) (.slice A2 ps.length c2) ps:=by
 obtain ⟨sn,sp,h1,h2,h3⟩:=h.ex
 obtain ⟨A1,c1,rfl⟩:=ak h2
 obtain ⟨A2,c2,rfl⟩:=h3.form
 exact ⟨A1,c1,A2,c2,h1,h2,h3⟩
theorem jP {W:World} {b:Nat} {v0 v1 v2 v3 v4:Value} (h:Blk W b 102 #[v0,v1,v2,v3,v4]):
  W.cell? ⟨b,0,none⟩=some v0∧W.cell? ⟨b,1,none⟩=some v1∧W.cell? ⟨b,2,none⟩=some v2∧W.cell? ⟨b,3,none⟩=some v3∧W.cell? ⟨b,4,none⟩=some v4∧
  W.frozen? ⟨b,0,none⟩=false∧W.frozen? ⟨b,1,none⟩=false∧W.frozen? ⟨b,2,none⟩=false∧W.frozen? ⟨b,3,none⟩=false∧W.frozen? ⟨b,4,none⟩=false:=
 ⟨h.cell 0,h.cell 1,h.cell 2,h.cell 3,h.cell 4,h.frozen 0,h.frozen 1,h.frozen 2,h.frozen 3,h.frozen 4⟩
section
variable {w V:World} {b:Nat} {f wd ot:ByteArray} {ns:List (List UInt8)} {ps:List Gr.P}
theorem aO.ay {f' wd' ot':ByteArray} (h:aO w b f wd ot ns ps V) (i:Nat) (u:Value) (hi: ∀sn sp:Value,(#[.string f, .string wd, .string ot,sn,sp]:Array Value).setIfInBounds i u= #[.string f', .string wd', .string ot',sn,sp]):aO w b f' wd' ot' ns ps (V.setCell ⟨w.heap.size,i,none⟩ u):=by
 obtain ⟨sn,sp,h1,h2,h3⟩:=h.ex
 have hset:=grownBy_set V ⟨w.heap.size,i,none⟩ u
 exact ⟨⟨sn,sp,(h1.ay i u).cast (hi sn sp),bG h2 hset (Nat.lt_succ_self _),h3.step hset (Nat.lt_succ_self _)⟩,jf h.gr hset (fun i e=>by cases e;exact Nat.le_refl _)⟩
theorem aO.set0 (h:aO w b f wd ot ns ps V) (z:ByteArray):aO w b z wd ot ns ps (V.setCell ⟨w.heap.size,0,none⟩ (.string z)):=h.ay 0 _ fun sn sp=>by simp
theorem aO.set1 (h:aO w b f wd ot ns ps V) (z:ByteArray):aO w b f z ot ns ps (V.setCell ⟨w.heap.size,1,none⟩ (.string z)):=h.ay 1 _ fun sn sp=>by simp
theorem aO.set2 (h:aO w b f wd ot ns ps V) (z:ByteArray):aO w b f wd z ns ps (V.setCell ⟨w.heap.size,2,none⟩ (.string z)):=h.ay 2 _ fun sn sp=>by simp
theorem aO.set4 {ps':List Gr.P} {u:Value} (h:aO w b f wd ot ns ps V) (hp:aC 212 V (w.heap.size+1) u ps'):aO w b f wd ot ns ps' (V.setCell ⟨w.heap.size,4,none⟩ u):=by
 obtain ⟨sn,sp,h1,h2,h3⟩:=h.ex
 have hset:=grownBy_set V ⟨w.heap.size,4,none⟩ u
 exact ⟨⟨sn,u,(h1.ay 4 u).cast (by simp),bG h2 hset (Nat.lt_succ_self _),hp.step hset (Nat.lt_succ_self _)⟩,jf h.gr hset (fun i e=>by cases e;exact Nat.le_refl _)⟩
theorem aO.set3 {ns':List (List UInt8)} {u:Value} (h:aO w b f wd ot ns ps V) (hp:V.ownsRow (w.heap.size+1) 9 1 u ns'.length (ns'.map ST)):aO w b f wd ot ns' ps (V.setCell ⟨w.heap.size,3,none⟩ u):=by
 obtain ⟨sn,sp,h1,h2,h3⟩:=h.ex
 have hset:=grownBy_set V ⟨w.heap.size,3,none⟩ u
 exact ⟨⟨u,sp,(h1.ay 3 u).cast (by simp),bG hp hset (Nat.lt_succ_self _),h3.step hset (Nat.lt_succ_self _)⟩,jf h.gr hset (fun i e=>by cases e;exact Nat.le_refl _)⟩
theorem aO.name {V':World} {x:List UInt8} {A1 A2:Option Addr} {c1 c2:Nat} {v:Value} (h:aO w b f wd ot ns [] V) (hb:b<w.heap.size)
  (hk:Blk V w.heap.size 102 #[.string f, .string wd, .string ot, .slice A1 ns.length c1, .slice A2 0 c2]) (hs:V.ownsRow (w.heap.size+1) 9 1 (.slice A1 ns.length c1) ns.length (ns.map ST)) (hp:aC 212 V (w.heap.size+1) (.slice A2 0 c2) [])
  (hown:V'.ownsRow (w.heap.size+1) 9 1 v (ns.length+1) (ns.map ST ++ [ST x])) (hg:V.grownBy V' (Value.slice A1 ns.length c1).ownBlock) (hbl:Below (w.heap.size+1) V V'):aO w b f wd ot (ns ++ [x]) [] (V'.setCell ⟨w.heap.size,3,none⟩ v):=by
 obtain ⟨l,e,-,h3⟩:=hp
 obtain rfl:=List.map_eq_nil_iff.1 e
 have hgr:w.grownBy V' (some b):=⟨hbl.os.trans h.gr.os,hbl.tape.trans h.gr.tape,hbl.output.trans h.gr.output,Nat.le_trans h.gr.size hbl.size,fun i hi hne=>(hbl.block i (by omega)).trans (h.gr.block i hi hne)⟩
 have hset:=grownBy_set V' ⟨w.heap.size,3,none⟩ v
 refine ⟨⟨v, .slice A2 0 c2,((hk.below hbl (Nat.lt_succ_self _)).ay 3 v).cast (by simp), ?_, [],rfl,by simp,bG (aP h3 hg fun g c t fz hr hc=> ?_) hset (Nat.lt_succ_self _)⟩,jf hgr hset (fun i e=>by cases e;exact Nat.le_refl _)⟩
 ·have:=bG hown hset (Nat.lt_succ_self _)
  rw [List.length_append,List.map_append]
  exact this
 ·obtain ⟨-,c',hc'⟩:=dZ hs g hr
  rw [hc'] at hc
  cases hc
  decide
end
def vF (W:World) (B:Nat) (u:Value) (p:Cy.Pat):Prop:=
 ∃sn sp,u= .agg #[ST p.first,ST p.word,ST p.other,sn,sp]∧W.ownsRow B 9 1 sn p.names.length (p.names.map ST)∧aC 212 W B sp p.props
theorem LZ (w:World) (base e:Nat) (u:Value) (hb:base≤w.heap.size):(w.alloc (.cells #[u] e)).ownsRow base e 1 (.slice (some ⟨w.heap.size,0,none⟩) 1 1) 1 [u]:=
 ⟨rfl, .inr ⟨w.heap.size,1,#[u],rfl,hb,heap_alloc_new w _,Nat.le_refl _,by unfold maxLen;omega,rfl,rfl⟩⟩
theorem aO.told {q0:Nat×Nat} {w V W:World} {b:Nat} {f wd ot:ByteArray} {ns:List (List UInt8)} {ps:List Gr.P} {r:List Lex.Tok} {sn sp:Value} {p:Cy.Pat} (h:aO w b f wd ot ns ps V) (hb:b<w.heap.size) (hr:RS q0 b r V)
  (h2:V.ownsRow (w.heap.size+1) 9 1 sn ns.length (ns.map ST)) (h3:aC 212 V (w.heap.size+1) sp ps) (hg:V.grownBy W (some w.heap.size))
  (e1:ST p.first= .string f) (e2:ST p.word= .string wd) (e3:ST p.other= .string ot) (e4:p.names=ns) (e5:p.props=ps):
  vC q0 b w (fun W u p=>vF W w.heap.size u p) (some (p,r)) (.returned (.agg #[.string f, .string wd, .string ot,sn,sp])) W:=
 ⟨jf h.gr hg (fun i e=>by cases e;exact Nat.le_refl _),_,rfl,⟨sn,sp,by rw [e1,e2,e3],by rw [e4];exact own_base (bG h2 hg (Nat.lt_succ_self _)) (Nat.le_succ _),by rw [e5];exact (h3.step hg (Nat.lt_succ_self _)).base (Nat.le_succ _)⟩,hr.grown hg hb⟩
theorem vG {fn:Func} {R:Ending→World→Prop} {tmps:Array Value} {W:World} {b:Nat} {v0 v1 v2 v3 v4:Value} (hfn:fn.results= #[.cell 2 102])
  (ht:tmps.getD 2 undef= .pointer (some ⟨b,0,none⟩)) (hB:Blk W b 102 #[v0,v1,v2,v3,v4]) (hR:R (.returned (.agg #[v0,v1,v2,v3,v4])) W):
  bodyPost Tryz.prog fn R .ret {tmps:=tmps,defers:= []} W:=by
 have c0:=hB.cell 0
 have c1:=hB.cell 1
 have c2:=hB.cell 2
 have c3:=hB.cell 3
 have c4:=hB.cell 4
 simp at c0 c1 c2 c3 c4
 refine bodyPost_ret (v:= .agg #[v0,v1,v2,v3,v4]) ?_ rfl hR
 simp at ht
 simp [results,hfn,go_sem,ht,c0,c1,c2,c3,c4]
theorem vH {W:World} {b:Nat} {v0 v1 v2 v3 v4:Value} (h:Blk W b 102 #[v0,v1,v2,v3,v4]):
  Blk (((((W.setCell ⟨b,0,none⟩ v0).setCell ⟨b,1,none⟩ v1).setCell ⟨b,2,none⟩ v2).setCell ⟨b,3,none⟩ v3).setCell ⟨b,4,none⟩ v4) b 102 #[v0,v1,v2,v3,v4]:=h.self5
theorem L6 {r r' r'':List Lex.Tok} {ps:List Gr.P} (h1:Cy.fO r=some (ps,r')) (h2:Cy.mark [41] r'=some r''):(r.headD fP).text= [123]↔(Cy.mark [123] r).isSome=true:=by
 cases r with
 | nil=>simp [fP,Cy.mark]
 | cons t l=>
  rw [List.headD_cons]
  constructor
  ·intro ht
   by_cases hk:t.kind=5
   ·rw [Cy.mark,if_pos ⟨hk,ht⟩];rfl
   ·exfalso
    have hm:Cy.mark [123] (t :: l)=none:=by rw [Cy.mark,if_neg (fun x=>hk x.1)]
    unfold Cy.fO at h1
    rw [hm] at h1
    cases h1
    rw [Cy.mark,if_neg (fun x=>hk x.1)] at h2
    cases h2
  ·intro hm
   rw [Cy.mark] at hm
   split at hm
   ·rename_i h;exact h.2
   ·cases hm
theorem Dn {q0:Nat×Nat} {b:Nat} {l:List Lex.Tok} {w:World} (h:RS q0 b l w):
  Calls Tryz.prog 87 #[.pointer (some ⟨b,0,none⟩)] w (vC q0 b w (fun W u p=>vF W w.heap.size u p) (Cy.gV l)):=by
 obtain ⟨o,ho⟩: ∃o,Cy.gV l=o:=⟨_,rfl⟩
 rw [ho]
 unfold Cy.gV at ho
 have hu:=iC
 have HLT:=hq7 h.lt
 have hr1:=h.kept ((Below.refl _ w).alloc (Nat.le_refl _) (.cells #[.string ⟨#[]⟩, .string ⟨#[]⟩, .string ⟨#[]⟩, .slice none 0 0, .slice none 0 0] 102))
 obtain ⟨W1,hW1⟩: ∃W1,w.alloc (.cells #[.string ⟨#[]⟩, .string ⟨#[]⟩, .string ⟨#[]⟩, .slice none 0 0, .slice none 0 0] 102)=W1:=⟨_,rfl⟩
 rw [hW1] at hr1
 have HS0:=hq7 (show aO w b ⟨#[]⟩ ⟨#[]⟩ ⟨#[]⟩ [] [] W1 by rw [←hW1];exact ⟨⟨_,_,Blk.new _ _ _,World.ownsRow_nil _ _ _ _,aC.nil _ _ _⟩,jF (bF _ _) _⟩)
 have HR0:=hq7 hr1
 have HW1:=hq7 hW1
 have HE0:=hq7 ho
 clear h hr1 hW1 ho
 go_enter Tryz.func87,Tryz.ntmps87
 go_upto_region 1 with fail
 rw [HW1.out]
 clear HW1
 cases hc:Cy.mark [40] l with
 | none=>
  have HM:=hq7 (cZ (z:=⟨#[40]⟩) HR0.out hc)
  have he:=HE0.out
  try simp only at he
  rw [hc] at he
  try simp only at he
  have HO:=hq7 he
  clear hc he
  go_wp2_with fail
  refine HM.out.mono ?_
  rintro e wa1 ⟨rfl,hr,hg⟩
  have HG:=hq7 (HS0.out.step HLT.out hg).gr
  clear hr hg
  go_wp2_with fail
  refine (dX _ _).mono ?_
  rintro e wb1 ⟨rfl,rfl⟩
  exact ⟨rfl,HG.out,by rw [←HO.out]⟩
 | some l1=>
 have HM:=hq7 (dJ (z:=⟨#[40]⟩) HR0.out hc)
 have he:=HE0.out
 try simp only at he
 rw [hc] at he
 try simp only at he
 have HE1:=hq7 he
 clear hc he
 go_wp2_with fail
 refine HM.out.mono ?_
 rintro e wa1 ⟨rfl,hr,hg⟩
 have HR1:=hq7 hr
 have HS1:=hq7 (HS0.out.step HLT.out hg)
 clear hr hg HM HR0 HS0 HE0
 go_wp2_with fail
 refine (dR _ _).mono ?_
 rintro e wb1 ⟨rfl,rfl⟩
 cases hc:Cy.bT l1 with
 | none=>
  have HM:=hq7 (lH HR1.out hc)
  have he:=HE1.out
  try simp only at he
  rw [hc] at he
  try simp only at he
  have HO:=hq7 he
  clear hc he
  go_wp2_with fail
  refine HM.out.mono ?_
  rintro e wa2 ⟨rfl,hg⟩
  exact ⟨rfl,(HS1.out.step HLT.out hg).gr,by rw [←HO.out]⟩
 | some q2=>
 obtain ⟨fw,l2⟩:=q2
 have hwd:=lG HR1.out hc
 obtain ⟨zfw,hzfw⟩: ∃z:ByteArray,(⟨fw.toArray⟩:ByteArray)=z:=⟨_,rfl⟩
 rw [hzfw] at hwd
 have HM:=hq7 hwd
 have HZfw:=hq7 hzfw
 have he:=HE1.out
 try simp only at he
 rw [hc] at he
 try simp only at he
 have HE2:=hq7 he
 clear hc he hwd hzfw
 go_wp2_with fail
 refine HM.out.mono ?_
 rintro e wa2 ⟨rfl,hr,hg⟩
 have hs1:=HS1.out.step HLT.out hg
 obtain ⟨A1,c1,A2,c2,hbk,-,-⟩:=hs1.cells
 obtain ⟨a0,a1,a2,a3,a4,f0,f1,f2,f3,f4⟩:=jP hbk
 obtain ⟨W2,hW⟩: ∃W,wa2.setCell ⟨w.heap.size,0,none⟩ (.string zfw)=W:=⟨_,rfl⟩
 have HS2:=hq7 (show aO w b zfw ⟨#[]⟩ ⟨#[]⟩ [] [] W2 by rw [←hW];exact hs1.set0 zfw)
 have HR2:=hq7 (show RS q0 b l2 W2 by rw [←hW];exact hr.grown (grownBy_set wa2 ⟨w.heap.size,0,none⟩ _) HLT.out)
 have HW:=hq7 hW
 clear hr hg hs1 hbk hW HM HR1 HS1 HE1
 go_upto_block 0 with fail
 rw [HW.out]
 clear HW a0 a1 a2 a3 a4 f0 f1 f2 f3 f4
 obtain ⟨E,hE⟩: ∃E,Cy.gU (l2.length+1) l2 []=E:=⟨_,rfl⟩
 have he:=HE2.out
 try simp only at he
 rw [hE] at he
 have HX:=hq7 he
 have HEL:=hq7 hE
 clear he hE HE2
 go_wp2_with fail
 go_loopg [12] (l2.length+1) (fun g x wr=> ∃l' acc,RS q0 b l' wr∧aO w b zfw ⟨#[]⟩ ⟨#[]⟩ acc [] wr∧l'.length<g∧Hid (Cy.gU g l' acc=E)∧acc.length+l'.length≤16777216)
 case atStart=>exact ⟨l2, [],HR2.out,HS2.out,by omega,HEL.out,by have:=HR2.out.len;simp;omega⟩
 case round=>
  obtain ⟨l',acc,hr,hs,hlg,HE,hal⟩:=hrel
  have HR:=hq7 hr
  have HS:=hq7 hs
  have HAL:=hq7 hal
  have HLG:=hq7 hlg
  clear hr hs hal HEL HR2 HS2
  cases gk with
  | zero=>omega
  | succ f=>
  have he:_=E:=HE
  rw [Cy.gU] at he
  clear hlg HE
  cases hc:Cy.mark [58] l' with
  | some l3=>
   rw [hc] at he
   try simp only at he
   have HM:=hq7 (dJ (z:=⟨#[58]⟩) HR.out hc)
   have HE:=hq7 he
   have HL3:=hq7 (Cy.bg hc).2
   clear hc he
   go_wp2_with fail
   refine HM.out.mono ?_
   rintro e wm ⟨rfl,hr,hg⟩
   have HRm:=hq7 hr
   have HSm:=hq7 (HS.out.step HLT.out hg)
   clear hr hg HR HS HM
   obtain ⟨A1,c1,A2,c2,hbk,hon,hop⟩:=HSm.out.cells
   have HBK:=hq7 hbk
   have HON:=hq7 hon
   have HOP:=hq7 hop
   obtain ⟨al,hal⟩: ∃n,acc.length=n:=⟨_,rfl⟩
   have HALE:=hq7 hal
   have a3:wm.cell? ⟨w.heap.size,3,none⟩=some (.slice A1 al c1):=by rw [←hal];exact hbk.cell 3
   have f3:=hbk.frozen 3
   have hbw:=hbk.lt
   clear hbk hon hop hal
   cases hc:Cy.bT l3 with
   | none=>
    have he:=HE.out
    rw [hc] at he
    have HO:=hq7 (show none=o by rw [←HX.out,←he])
    have HM:=hq7 (lH (HRm.out.kept (w':=wm.drew) (below_drewN (Below.refl _ _) 1)) hc)
    clear hc he
    go_wp2_with fail
    have HG:=hq7 (show w.grownBy wm.drew (some b) from iP HSm.out.gr 1)
    go_region_dies
    all_goals (refine HM.out.mono ?_;rintro e w7 ⟨rfl,hg7⟩;exact ⟨rfl,aT HG.out hg7,by rw [←HO.out]⟩)
   | some q=>
    obtain ⟨x,l4⟩:=q
    have he:=HE.out
    rw [hc] at he
    try simp only at he
    have HE2:=hq7 he
    have HL4:=hq7 (Cy.jL hc HRm.out.ok).2.2.1
    have hwd:=lG (HRm.out.kept (w':=wm.drew) (below_drewN (Below.refl _ _) 1)) hc
    obtain ⟨zx,hzx⟩: ∃z:ByteArray,(⟨x.toArray⟩:ByteArray)=z:=⟨_,rfl⟩
    rw [hzx] at hwd
    have HM:=hq7 hwd
    have HZ:=hq7 hzx
    have HSd:=hq7 (show aO w b zfw ⟨#[]⟩ ⟨#[]⟩ acc [] wm.drew from HSm.out.step HLT.out (iP (bF wm (some b)) 1))
    have HKK:Hid (∀w',wm.drew.grownBy w' (some b)→w'.cell? ⟨w.heap.size,3,none⟩=some (.slice A1 al c1)∧w'.frozen? ⟨w.heap.size,3,none⟩=false):=fun w' hg=>by
     have hk:=(show Blk wm.drew _ _ _ from HBK.out).grown hg (fun e=>by have:=Option.some.inj e;have:=HLT.out;omega)
     exact ⟨(hk.cell 3).trans (by rw [←HALE.out];rfl),hk.frozen 3⟩
    have hall:al<1073741824:=by have:=HAL.out;have:=HALE.out;omega
    clear hc he hwd hzx HE
    go_wp2_with fail
    go_region_law (first |(refine nZ 145 rfl (by go_simp) (LX HM.out) ?_;rintro _ w7 ⟨rfl,hr7,hg7⟩;have hk7:=(HKK.out _ hg7).1;have HS7:=hq7 (HSd.out.step HLT.out hg7);have HO7:=hq7 (bG HON.out (aT (iP (bF wm (some b)) 1) hg7) (Nat.lt_succ_of_lt HLT.out));have HR7:=hq7 hr7;have hz7:=HS7.out.lt;clear hr7) |(refine tH rfl (.tmp 14) (.tmp 17) 23 9 (.string ⟨#[]⟩) 16 Tryz.underlying23 lV rfl (by decide) rfl (w.heap.size+1) (.slice A1 al c1) al (acc.map ST) _ rfl (by rw [←HALE.out];exact HO7.out) (.string zx) rfl rfl hall hz7 ?_;intro v9 w9 hown9 hgr9 hwh9 hb9;obtain ⟨A9,c9,rfl⟩:=ak hown9;have hk9:w9.cell? ⟨w.heap.size,3,none⟩=some (.slice A1 al c1):=(hb9.cell (Nat.lt_succ_self _)).trans (HKK.out _ hg7).1;have hf9:w9.frozen? ⟨w.heap.size,3,none⟩=false:=(hb9.frozen (Nat.lt_succ_self _)).trans (HKK.out _ hg7).2))
    all_goals
     have hg':wm.grownBy w7 (some b):=aT (iP (bF wm (some b)) 1) hg7
     have HPN:=hq7 (HS7.out.name HLT.out (x:=x) (v:= .slice A9 (al+1) c9) (HBK.out.grown hg' (fun e=>by have:=Option.some.inj e;have:=HLT.out;omega)) (bG HON.out hg' (Nat.lt_succ_of_lt HLT.out)) (HOP.out.step hg' (Nat.lt_succ_of_lt HLT.out)) (by rw [HALE.out,show ST x= .string zx by rw [←HZ.out];rfl];exact hown9) (by rw [HALE.out];exact hgr9) hb9)
     have HRN:=hq7 ((HR7.out.below hb9 (Nat.lt_succ_of_lt HLT.out)).grown (grownBy_set w9 ⟨w.heap.size,3,none⟩ (.slice A9 (al+1) c9)) HLT.out)
     clear hg' hown9 hgr9 hwh9 hb9 hk9 hf9 hk7 hg7
     go_wp2
     go_roundg f
     case measure=>omega
     case rel=>exact ⟨l4,acc ++ [x],HRN.out,HPN.out,by have:=HLG.out;have:=HL3.out;have:=HL4.out;omega,HE2,by have:=HAL.out;have:=HL3.out;have:=HL4.out;rw [List.length_append,List.length_singleton];omega⟩
  | none=>
  rw [hc] at he
  have HX2:=HX.out
  rw [←he] at HX2
  try simp only at HX2
  have HE:=hq7 HX2
  have HM:=hq7 (cZ (z:=⟨#[58]⟩) HR.out hc)
  have HLB:=hq7 he
  clear hc he HX2 HX
  go_wp2_with fail
  refine HM.out.mono ?_
  rintro e wm ⟨rfl,hr,hg⟩
  have HRm:=hq7 hr
  have HSm:=hq7 (HS.out.step HLT.out hg)
  clear hr hg HR HS HM
  go_upto_region 5 with fail
  go_cut [3] (fun s3 wx=> ∃lb:Bool,s3= .bool lb∧RS q0 b l' wx∧aO w b zfw ⟨#[]⟩ ⟨#[]⟩ acc [] wx∧Hid (lb=true↔acc≠ []∨(l'.headD fP).text= [123]))
  case first=>
   obtain ⟨A1,c1,A2,c2,hbk,-,-⟩:=HSm.out.cells
   obtain ⟨al,hal⟩: ∃n,acc.length=n:=⟨_,rfl⟩
   have a3:wm.cell? ⟨w.heap.size,3,none⟩=some (.slice A1 al c1):=by rw [←hal];exact hbk.cell 3
   have f3:=hbk.frozen 3
   clear hbk
   by_cases h0:acc= []
   ·have hal0:al=0:=by rw [←hal,h0];rfl
    subst hal0
    have HP:=hq7 (lX b l' wm HRm.out)
    obtain ⟨t,ht⟩: ∃t,l'.headD fP=t:=⟨_,rfl⟩
    rw [ht] at HP
    unfold tokV1 at HP
    obtain ⟨zt,hzt⟩: ∃zt:ByteArray,(⟨t.text.toArray⟩:ByteArray)=zt:=⟨_,rfl⟩
    rw [hzt] at HP
    have hztd:zt.data.toList=t.text:=by rw [←hzt]
    obtain ⟨tb,htb⟩: ∃tb,(zt.toList == [123])=tb:=⟨_,rfl⟩
    have HTB:Hid (tb=true↔acc≠ []∨(l'.headD fP).text= [123]):=hq7 (by
     rw [←htb,beq_iff_eq,Lib.toList_data,hztd,h0,ht]
     simp)
    have hfd: ∀w:World,(Instr.field 138 (.agg #[.int .i64 (t.kind:Int), .string zt, .int .i64 t.num, .int .i64 (t.pos:Int)]) 1).run Tryz.prog w= .ok (.string zt) w:=fun _=>by kernel_rfl
    clear h0 hal ht hzt hztd
    go_wp2_with fail
    refine HP.out.mono ?_
    rintro e wp ⟨rfl,hb⟩
    have HB:=hq7 hb
    clear hb
    go_wp2_with fail
    go_meet
    exact ⟨tb,by first | rfl |(rw [htb]),HRm.out.kept HB.out,HSm.out.step HLT.out (bJ HB.out _),HTB⟩
   ·have hpos:0<al:=by rw [←hal];exact List.length_pos_iff.2 h0
    have t0:decide (0<al)=true:=decide_eq_true hpos
    have hposI:(0:Int)<al:=by omega
    have H0:=hq7 h0
    clear h0 hal
    go_wp2_with fail
    go_meet
    exact ⟨true,rfl,HRm.out,HSm.out,hq7 ⟨fun _=> .inl H0.out,fun _=>rfl⟩⟩
  case rest=>
  obtain ⟨lb,rfl,hr,hs,HTB⟩:=hcut
  have HR:=hq7 hr
  have HS:=hq7 hs
  clear hr hs HRm HSm
  have HP:=hq7 (Dl HR.out)
  cases hc:Cy.fO l' with
  | none=>
   have he:=HE.out
   try simp only at he
   rw [hc] at he
   try simp only at he
   have HO:=hq7 he
   rw [hc] at HP
   clear hc he
   go_wp2_with fail
   refine HP.out.mono ?_
   rintro e wa3 ⟨hg,rfl⟩
   exact ⟨rfl,(HS.out.step HLT.out hg).gr,by rw [←HO.out]⟩
  | some q3=>
  obtain ⟨ps,l3⟩:=q3
  have he:=HE.out
  try simp only at he
  rw [hc] at he
  try simp only at he
  have HE3:=hq7 he
  rw [hc] at HP
  have HCP:=hq7 hc
  clear hc he
  go_wp2_with fail
  refine HP.out.mono ?_
  rintro e wa3 ⟨hg,u,rfl,hp,hr⟩
  have hs1:=HS.out.step HLT.out hg
  have hpb:aC 212 wa3 (w.heap.size+1) u ps:=hp.base (by have:=HS.out.lt;omega)
  obtain ⟨Au,cu,rfl⟩:=hpb.form
  obtain ⟨A1,c1,A2,c2,hbk,-,-⟩:=hs1.cells
  obtain ⟨a0,a1,a2,a3,a4,f0,f1,f2,f3,f4⟩:=jP hbk
  obtain ⟨W3,hW⟩: ∃W,wa3.setCell ⟨w.heap.size,4,none⟩ (.slice Au ps.length cu)=W:=⟨_,rfl⟩
  have HS3:=hq7 (show aO w b zfw ⟨#[]⟩ ⟨#[]⟩ acc ps W3 by rw [←hW];exact hs1.set4 hpb)
  have HR3:=hq7 (show RS q0 b l3 W3 by rw [←hW];exact hr.grown (grownBy_set wa3 ⟨w.heap.size,4,none⟩ _) HLT.out)
  have HW:=hq7 hW
  clear hr hg hs1 hp hpb hbk hW HP HR HS HE
  go_upto_region 7 with fail
  rw [HW.out]
  clear HW a0 a1 a2 a3 a4 f0 f1 f2 f3 f4
  cases hc:Cy.mark [41] l3 with
  | none=>
   have HM:=hq7 (cZ (z:=⟨#[41]⟩) HR3.out hc)
   have he:=HE3.out
   try simp only at he
   rw [hc] at he
   try simp only at he
   have HO:=hq7 he
   clear hc he
   go_wp2_with fail
   refine HM.out.mono ?_
   rintro e wa4 ⟨rfl,hr,hg⟩
   have HG:=hq7 (HS3.out.step HLT.out hg).gr
   clear hr hg
   go_wp2_with fail
   refine (dX _ _).mono ?_
   rintro e wb4 ⟨rfl,rfl⟩
   exact ⟨rfl,HG.out,by rw [←HO.out]⟩
  | some l4=>
  have HM:=hq7 (dJ (z:=⟨#[41]⟩) HR3.out hc)
  have he:=HE3.out
  try simp only at he
  rw [hc] at he
  try simp only at he
  have HE4:=hq7 he
  have HC4:=hq7 hc
  clear hc he
  go_wp2_with fail
  refine HM.out.mono ?_
  rintro e wa4 ⟨rfl,hr,hg⟩
  have HR4:=hq7 hr
  have HS4:=hq7 (HS3.out.step HLT.out hg)
  clear hr hg HM HR3 HS3 HE3
  go_wp2_with fail
  refine (dR _ _).mono ?_
  rintro e wb4 ⟨rfl,rfl⟩
  have hlb:lb=true↔(acc≠ []∨(Cy.mark [123] l').isSome=true):=by
   rw [HTB.out,L6 HCP.out HC4.out]
  have he:=HE4.out
  cases lb with
  | true=>
   rw [if_pos (hlb.1 rfl)] at he
   have HO:=hq7 he
   clear he hlb HCP HC4
   obtain ⟨A1,c1,A2,c2,hbk,hn8,hp8⟩:=HS4.out.cells
   obtain ⟨a0,a1,a2,a3,a4,f0,f1,f2,f3,f4⟩:=jP hbk
   have HBK:=hq7 hbk
   have HN8:=hq7 hn8
   have HP8:=hq7 hp8
   clear hbk hn8 hp8
   go_wp2
   exact vG rfl rfl (vH HBK.out) (by rw [←HO.out];exact HS4.out.told HLT.out HR4.out HN8.out HP8.out (qH (bF _ _) _ _ _ _ _) (by rw [←HZfw.out];rfl) rfl rfl rfl rfl)
  | false=>
  rw [if_neg (fun x=>by have:=hlb.2 x;cases this)] at he
  cases hc:Cy.mark [45] l4 with
  | none=>
   have HM:=hq7 (cZ (z:=⟨#[45]⟩) HR4.out hc)
   rw [hc] at he
   have HO:=hq7 he
   clear hc he hlb HCP HC4
   go_wp2_with fail
   refine HM.out.mono ?_
   rintro e wz ⟨rfl,hr,hg⟩
   have HRz:=hq7 hr
   have HSz:=hq7 (HS4.out.step HLT.out hg)
   clear hr hg HM HR4 HS4
   obtain ⟨A1,c1,A2,c2,hbk,hn8,hp8⟩:=HSz.out.cells
   obtain ⟨a0,a1,a2,a3,a4,f0,f1,f2,f3,f4⟩:=jP hbk
   have HBK:=hq7 hbk
   have HN8:=hq7 hn8
   have HP8:=hq7 hp8
   clear hbk hn8 hp8
   go_wp2
   exact vG rfl rfl (vH HBK.out) (by rw [←HO.out];exact HSz.out.told HLT.out HRz.out HN8.out HP8.out (qH (bF _ _) _ _ _ _ _) (by rw [←HZfw.out];rfl) rfl rfl rfl rfl)
  | some l5=>
  have HM:=hq7 (dJ (z:=⟨#[45]⟩) HR4.out hc)
  rw [hc] at he
  try simp only at he
  unfold Cy.nK at he
  have HE5:=hq7 he
  clear hc he hlb HCP HC4 HE4
  go_wp2_with fail
  refine HM.out.mono ?_
  rintro e wz ⟨rfl,hr,hg⟩
  have HR5:=hq7 hr
  have HS5:=hq7 (HS4.out.step HLT.out hg)
  clear hr hg HM HR4 HS4
  cases hc:Cy.mark [91] l5 with
  | none=>
   have HM:=hq7 (cZ (z:=⟨#[91]⟩) HR5.out hc)
   have he:=HE5.out
   try simp only at he
   rw [hc] at he
   try simp only at he
   have HO:=hq7 he
   clear hc he
   go_wp2_with fail
   refine HM.out.mono ?_
   rintro e wa6 ⟨rfl,hr,hg⟩
   have HG:=hq7 (HS5.out.step HLT.out hg).gr
   clear hr hg
   go_wp2_with fail
   refine (dX _ _).mono ?_
   rintro e wb6 ⟨rfl,rfl⟩
   exact ⟨rfl,HG.out,by rw [←HO.out]⟩
  | some l6=>
  have HM:=hq7 (dJ (z:=⟨#[91]⟩) HR5.out hc)
  have he:=HE5.out
  try simp only at he
  rw [hc] at he
  try simp only at he
  have HE6:=hq7 he
  clear hc he
  go_wp2_with fail
  refine HM.out.mono ?_
  rintro e wa6 ⟨rfl,hr,hg⟩
  have HR6:=hq7 hr
  have HS6:=hq7 (HS5.out.step HLT.out hg)
  clear hr hg HM HR5 HS5 HE5
  go_wp2_with fail
  refine (dR _ _).mono ?_
  rintro e wb6 ⟨rfl,rfl⟩
  cases hc:Cy.bT l6 with
  | none=>
   have HM:=hq7 (lH HR6.out hc)
   have he:=HE6.out
   try simp only at he
   rw [hc] at he
   try simp only at he
   have HO:=hq7 he
   clear hc he
   go_wp2_with fail
   refine HM.out.mono ?_
   rintro e wa7 ⟨rfl,hg⟩
   exact ⟨rfl,(HS6.out.step HLT.out hg).gr,by rw [←HO.out]⟩
  | some q7=>
  obtain ⟨rw,l7⟩:=q7
  have hwd:=lG HR6.out hc
  obtain ⟨zrw,hzrw⟩: ∃z:ByteArray,(⟨rw.toArray⟩:ByteArray)=z:=⟨_,rfl⟩
  rw [hzrw] at hwd
  have HM:=hq7 hwd
  have HZrw:=hq7 hzrw
  have he:=HE6.out
  try simp only at he
  rw [hc] at he
  try simp only at he
  have HE7:=hq7 he
  clear hc he hwd hzrw
  go_wp2_with fail
  refine HM.out.mono ?_
  rintro e wa7 ⟨rfl,hr,hg⟩
  have hs1:=HS6.out.step HLT.out hg
  obtain ⟨A1,c1,A2,c2,hbk,-,-⟩:=hs1.cells
  obtain ⟨a0,a1,a2,a3,a4,f0,f1,f2,f3,f4⟩:=jP hbk
  obtain ⟨W7,hW⟩: ∃W,wa7.setCell ⟨w.heap.size,1,none⟩ (.string zrw)=W:=⟨_,rfl⟩
  have HS7:=hq7 (show aO w b zfw zrw ⟨#[]⟩ acc ps W7 by rw [←hW];exact hs1.set1 zrw)
  have HR7:=hq7 (show RS q0 b l7 W7 by rw [←hW];exact hr.grown (grownBy_set wa7 ⟨w.heap.size,1,none⟩ _) HLT.out)
  have HW:=hq7 hW
  clear hr hg hs1 hbk hW HM HR6 HS6 HE6
  go_upto_region 12 with fail
  rw [HW.out]
  clear HW a0 a1 a2 a3 a4 f0 f1 f2 f3 f4
  cases hc:Cy.mark [58] l7 with
  | none=>
   have HM:=hq7 (cZ (z:=⟨#[58]⟩) HR7.out hc)
   have he:=HE7.out
   try simp only at he
   rw [hc] at he
   try simp only at he
   have HO:=hq7 he
   clear hc he
   go_wp2_with fail
   refine HM.out.mono ?_
   rintro e wa8 ⟨rfl,hr,hg⟩
   have HG:=hq7 (HS7.out.step HLT.out hg).gr
   clear hr hg
   go_wp2_with fail
   refine (dX _ _).mono ?_
   rintro e wb8 ⟨rfl,rfl⟩
   exact ⟨rfl,HG.out,by rw [←HO.out]⟩
  | some l8=>
  have HM:=hq7 (dJ (z:=⟨#[58]⟩) HR7.out hc)
  have he:=HE7.out
  try simp only at he
  rw [hc] at he
  try simp only at he
  have HE8:=hq7 he
  clear hc he
  go_wp2_with fail
  refine HM.out.mono ?_
  rintro e wa8 ⟨rfl,hr,hg⟩
  have HR8:=hq7 hr
  have HS8:=hq7 (HS7.out.step HLT.out hg)
  clear hr hg HM HR7 HS7 HE7
  go_wp2_with fail
  refine (dR _ _).mono ?_
  rintro e wb8 ⟨rfl,rfl⟩
  cases hc:Cy.bT l8 with
  | none=>
   have HM:=hq7 (lH HR8.out hc)
   have he:=HE8.out
   try simp only at he
   rw [hc] at he
   have HO:=hq7 he
   clear hc he
   go_wp2_with fail
   refine HM.out.mono ?_
   rintro e wt ⟨rfl,hg⟩
   exact ⟨rfl,(HS8.out.step HLT.out hg).gr,by rw [←HO.out]⟩
  | some qt=>
  obtain ⟨ty,lt⟩:=qt
  have hwd:=lG HR8.out hc
  obtain ⟨zty,hzty⟩: ∃z:ByteArray,(⟨ty.toArray⟩:ByteArray)=z:=⟨_,rfl⟩
  rw [hzty] at hwd
  have HM:=hq7 hwd
  have he:=HE8.out
  try simp only at he
  rw [hc] at he
  try simp only at he
  have HEt:=hq7 he
  have hty:ST ty= .string zty:=by rw [←hzty];rfl
  have HTY:=hq7 hty
  clear hc he hwd hzty hty
  go_wp2_with fail
  refine HM.out.mono ?_
  rintro e wt ⟨rfl,hr,hg⟩
  have hs1:=HS8.out.step HLT.out hg
  have hlit:=LZ wt (w.heap.size+1) 9 (.string zty) hs1.lt
  have hb2:Below wt.heap.size wt (wt.alloc (.cells #[.string zty] 9)):=(Below.refl _ _).alloc (Nat.le_refl _) _
  have hs2:=hs1.step HLT.out (bJ hb2 _)
  obtain ⟨A1,c1,A2,c2,hbk,-,-⟩:=hs2.cells
  obtain ⟨a0,a1,a2,a3,a4,f0,f1,f2,f3,f4⟩:=jP hbk
  obtain ⟨Wt,hW⟩: ∃W,(wt.alloc (.cells #[.string zty] 9)).setCell ⟨w.heap.size,3,none⟩ (.slice (some ⟨wt.heap.size,0,none⟩) 1 1)=W:=⟨_,rfl⟩
  have HSt:=hq7 (show aO w b zfw zrw ⟨#[]⟩ [ty] ps Wt by rw [←hW];exact hs2.set3 (ns':= [ty]) (by rw [List.map_cons,List.map_nil,HTY.out];exact hlit))
  have HRt:=hq7 (show RS q0 b lt Wt by rw [←hW];exact (hr.kept hb2).grown (grownBy_set _ ⟨w.heap.size,3,none⟩ _) HLT.out)
  have HW:=hq7 hW
  clear hr hg hs1 hs2 hbk hW HM hb2 hlit HR8 HS8 HE8
  go_upto_region 14 with fail
  rw [HW.out]
  clear HW a0 a1 a2 a3 a4 f0 f1 f2 f3 f4
  have HP:=hq7 (Dl HRt.out)
  cases hc:Cy.fO lt with
  | none=>
   have he:=HEt.out
   try simp only at he
   rw [hc] at he
   try simp only at he
   have HO:=hq7 he
   rw [hc] at HP
   clear hc he
   go_wp2_with fail
   refine HP.out.mono ?_
   rintro e wa10 ⟨hg,rfl⟩
   exact ⟨rfl,(HSt.out.step HLT.out hg).gr,by rw [←HO.out]⟩
  | some q10=>
  obtain ⟨rps,l10⟩:=q10
  have he:=HEt.out
  try simp only at he
  rw [hc] at he
  try simp only at he
  have HE10:=hq7 he
  rw [hc] at HP
  clear hc he
  go_wp2_with fail
  refine HP.out.mono ?_
  rintro e wa10 ⟨hg,u,rfl,hp,hr⟩
  have hs1:=HSt.out.step HLT.out hg
  have hpb:aC 212 wa10 (w.heap.size+1) u rps:=hp.base (by have:=HSt.out.lt;omega)
  obtain ⟨Au,cu,rfl⟩:=hpb.form
  obtain ⟨A1,c1,A2,c2,hbk,-,-⟩:=hs1.cells
  obtain ⟨a0,a1,a2,a3,a4,f0,f1,f2,f3,f4⟩:=jP hbk
  obtain ⟨W10,hW⟩: ∃W,wa10.setCell ⟨w.heap.size,4,none⟩ (.slice Au rps.length cu)=W:=⟨_,rfl⟩
  have HS10:=hq7 (show aO w b zfw zrw ⟨#[]⟩ [ty] rps W10 by rw [←hW];exact hs1.set4 hpb)
  have HR10:=hq7 (show RS q0 b l10 W10 by rw [←hW];exact hr.grown (grownBy_set wa10 ⟨w.heap.size,4,none⟩ _) HLT.out)
  have HW:=hq7 hW
  clear hr hg hs1 hp hpb hbk hW HP HRt HSt HEt
  go_upto_region 15 with fail
  rw [HW.out]
  clear HW a0 a1 a2 a3 a4 f0 f1 f2 f3 f4
  cases hc:Cy.mark [93] l10 with
  | none=>
   have HM:=hq7 (cZ (z:=⟨#[93]⟩) HR10.out hc)
   have he:=HE10.out
   try simp only at he
   rw [hc] at he
   try simp only at he
   have HO:=hq7 he
   clear hc he
   go_wp2_with fail
   refine HM.out.mono ?_
   rintro e wa11 ⟨rfl,hr,hg⟩
   have HG:=hq7 (HS10.out.step HLT.out hg).gr
   clear hr hg
   go_wp2_with fail
   refine (dX _ _).mono ?_
   rintro e wb11 ⟨rfl,rfl⟩
   exact ⟨rfl,HG.out,by rw [←HO.out]⟩
  | some l11=>
  have HM:=hq7 (dJ (z:=⟨#[93]⟩) HR10.out hc)
  have he:=HE10.out
  try simp only at he
  rw [hc] at he
  try simp only at he
  have HE11:=hq7 he
  clear hc he
  go_wp2_with fail
  refine HM.out.mono ?_
  rintro e wa11 ⟨rfl,hr,hg⟩
  have HR11:=hq7 hr
  have HS11:=hq7 (HS10.out.step HLT.out hg)
  clear hr hg HM HR10 HS10 HE10
  go_wp2_with fail
  refine (dR _ _).mono ?_
  rintro e wb11 ⟨rfl,rfl⟩
  cases hc:Cy.mark [45,62] l11 with
  | none=>
   have HM:=hq7 (cZ (z:=⟨#[45,62]⟩) HR11.out hc)
   have he:=HE11.out
   try simp only at he
   rw [hc] at he
   try simp only at he
   have HO:=hq7 he
   clear hc he
   go_wp2_with fail
   refine HM.out.mono ?_
   rintro e wa12 ⟨rfl,hr,hg⟩
   have HG:=hq7 (HS11.out.step HLT.out hg).gr
   clear hr hg
   go_wp2_with fail
   refine (dX _ _).mono ?_
   rintro e wb12 ⟨rfl,rfl⟩
   exact ⟨rfl,HG.out,by rw [←HO.out]⟩
  | some l12=>
  have HM:=hq7 (dJ (z:=⟨#[45,62]⟩) HR11.out hc)
  have he:=HE11.out
  try simp only at he
  rw [hc] at he
  try simp only at he
  have HE12:=hq7 he
  clear hc he
  go_wp2_with fail
  refine HM.out.mono ?_
  rintro e wa12 ⟨rfl,hr,hg⟩
  have HR12:=hq7 hr
  have HS12:=hq7 (HS11.out.step HLT.out hg)
  clear hr hg HM HR11 HS11 HE11
  go_wp2_with fail
  refine (dR _ _).mono ?_
  rintro e wb12 ⟨rfl,rfl⟩
  cases hc:Cy.mark [40] l12 with
  | none=>
   have HM:=hq7 (cZ (z:=⟨#[40]⟩) HR12.out hc)
   have he:=HE12.out
   try simp only at he
   rw [hc] at he
   try simp only at he
   have HO:=hq7 he
   clear hc he
   go_wp2_with fail
   refine HM.out.mono ?_
   rintro e wa13 ⟨rfl,hr,hg⟩
   have HG:=hq7 (HS12.out.step HLT.out hg).gr
   clear hr hg
   go_wp2_with fail
   refine (dX _ _).mono ?_
   rintro e wb13 ⟨rfl,rfl⟩
   exact ⟨rfl,HG.out,by rw [←HO.out]⟩
  | some l13=>
  have HM:=hq7 (dJ (z:=⟨#[40]⟩) HR12.out hc)
  have he:=HE12.out
  try simp only at he
  rw [hc] at he
  try simp only at he
  have HE13:=hq7 he
  clear hc he
  go_wp2_with fail
  refine HM.out.mono ?_
  rintro e wa13 ⟨rfl,hr,hg⟩
  have HR13:=hq7 hr
  have HS13:=hq7 (HS12.out.step HLT.out hg)
  clear hr hg HM HR12 HS12 HE12
  go_wp2_with fail
  refine (dR _ _).mono ?_
  rintro e wb13 ⟨rfl,rfl⟩
  cases hc:Cy.bT l13 with
  | none=>
   have HM:=hq7 (lH HR13.out hc)
   have he:=HE13.out
   try simp only at he
   rw [hc] at he
   try simp only at he
   have HO:=hq7 he
   clear hc he
   go_wp2_with fail
   refine HM.out.mono ?_
   rintro e wa14 ⟨rfl,hg⟩
   exact ⟨rfl,(HS13.out.step HLT.out hg).gr,by rw [←HO.out]⟩
  | some q14=>
  obtain ⟨ow,l14⟩:=q14
  have hwd:=lG HR13.out hc
  obtain ⟨zow,hzow⟩: ∃z:ByteArray,(⟨ow.toArray⟩:ByteArray)=z:=⟨_,rfl⟩
  rw [hzow] at hwd
  have HM:=hq7 hwd
  have HZow:=hq7 hzow
  have he:=HE13.out
  try simp only at he
  rw [hc] at he
  try simp only at he
  have HE14:=hq7 he
  clear hc he hwd hzow
  go_wp2_with fail
  refine HM.out.mono ?_
  rintro e wa14 ⟨rfl,hr,hg⟩
  have hs1:=HS13.out.step HLT.out hg
  obtain ⟨A1,c1,A2,c2,hbk,-,-⟩:=hs1.cells
  obtain ⟨a0,a1,a2,a3,a4,f0,f1,f2,f3,f4⟩:=jP hbk
  obtain ⟨W14,hW⟩: ∃W,wa14.setCell ⟨w.heap.size,2,none⟩ (.string zow)=W:=⟨_,rfl⟩
  have HS14:=hq7 (show aO w b zfw zrw zow [ty] rps W14 by rw [←hW];exact hs1.set2 zow)
  have HR14:=hq7 (show RS q0 b l14 W14 by rw [←hW];exact hr.grown (grownBy_set wa14 ⟨w.heap.size,2,none⟩ _) HLT.out)
  have HW:=hq7 hW
  clear hr hg hs1 hbk hW HM HR13 HS13 HE13
  go_upto_region 19 with fail
  rw [HW.out]
  clear HW a0 a1 a2 a3 a4 f0 f1 f2 f3 f4
  have HX:=hq7 (show (Cy.mark [41] l14).map (fun l=>((⟨true,fw,rw,ow, [ty],rps⟩:Cy.Pat),l))=o from HE14.out)
  cases hc:Cy.mark [41] l14 with
  | none=>
   have HM:=hq7 (cZ (z:=⟨#[41]⟩) HR14.out hc)
   have he:=HX.out
   rw [hc] at he
   have HO:=hq7 (show none=o from he)
   clear hc he
   go_wp2_with fail
   refine HM.out.mono ?_
   rintro e wy ⟨rfl,hr,hg⟩
   have HG:=hq7 (HS14.out.step HLT.out hg).gr
   clear hr hg
   go_wp2_with fail
   refine (dX _ _).mono ?_
   rintro e wx ⟨rfl,rfl⟩
   exact ⟨rfl,HG.out,by rw [←HO.out]⟩
  | some lz=>
  have HM:=hq7 (dJ (z:=⟨#[41]⟩) HR14.out hc)
  have he:=HX.out
  rw [hc] at he
  have HO:=hq7 (show some ((⟨true,fw,rw,ow, [ty],rps⟩:Cy.Pat),lz)=o from he)
  clear hc he
  go_wp2_with fail
  refine HM.out.mono ?_
  rintro e wy ⟨rfl,hr,hg⟩
  have HRy:=hq7 hr
  have HSy:=hq7 (HS14.out.step HLT.out hg)
  clear hr hg HM HR14 HS14 HE14 HX
  go_wp2_with fail
  refine (dR _ _).mono ?_
  rintro e wx ⟨rfl,rfl⟩
  obtain ⟨A1,c1,A2,c2,hbk,hn8,hp8⟩:=HSy.out.cells
  obtain ⟨a0,a1,a2,a3,a4,f0,f1,f2,f3,f4⟩:=jP hbk
  have HBK:=hq7 hbk
  have HN8:=hq7 hn8
  have HP8:=hq7 hp8
  clear hbk hn8 hp8
  go_wp2
  exact vG rfl rfl (vH HBK.out) (by rw [←HO.out];exact HSy.out.told HLT.out HRy.out HN8.out HP8.out (qH (bF _ _) _ _ _ _ _) (by rw [←HZfw.out];rfl) (by rw [←HZrw.out];rfl) (by rw [←HZow.out];rfl) rfl rfl)
end Go.Proofs.YtoofbflplhbpbaaGreatDoor
