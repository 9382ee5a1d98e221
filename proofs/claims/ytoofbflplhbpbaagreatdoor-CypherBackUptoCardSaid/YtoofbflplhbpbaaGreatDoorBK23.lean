/- Contracts and plain laws,part 23. -/
import Derived.Test.YtoofbflplhbpbaaGreatDoorBK22
set_option maxHeartbeats 64000000
set_option maxRecDepth 1000000
set_option linter.all false
namespace Go.Proofs.YtoofbflplhbpbaaGreatDoor
open Go.RowKit
theorem LQ {q0:Nat×Nat} {b:Nat} {l:List Lex.Tok} {w:World} (h:RS q0 b l w) (hm:Cy.mark [91] l=none) (hx:Cy.eX l=none):
  Calls Tryz.prog 205 #[.pointer (some ⟨b,0,none⟩)] w fun e w'=>e= .panicked SYN∧w.grownBy w' (some b):=by
 have hr1:=h.kept ((Below.refl _ w).alloc (Nat.le_refl _) (.cells #[.int .i64 0, .int .i64 0, .string ⟨#[]⟩, .slice none 0 0, .slice none 0 0] 25))
 obtain ⟨W1,hW1⟩: ∃W1,w.alloc (.cells #[.int .i64 0, .int .i64 0, .string ⟨#[]⟩, .slice none 0 0, .slice none 0 0] 25)=W1:=⟨_,rfl⟩
 rw [hW1] at hr1
 have HG1:=hq7 (show w.grownBy W1 (some b) by rw [←hW1];exact jF (bF _ _) _)
 have HM:=hq7 (cZ (z:=⟨#[91]⟩) hr1 hm)
 have HW1:=hq7 hW1
 have HX:=hq7 hx
 clear h hr1 hm hx hW1
 go_enter Tryz.func205,Tryz.ntmps205
 go_upto_region 1 with fail
 rw [HW1.out]
 go_wp2_with fail
 refine HM.out.mono ?_
 rintro e w2 ⟨rfl,hr2,hg2⟩
 have HG2:=hq7 (aT HG1.out hg2)
 have HS:=hq7 (CY hr2 HX.out)
 clear hr2 hg2
 go_wp2_with fail
 refine HS.out.mono ?_
 rintro e w3 ⟨rfl,hg3⟩
 exact ⟨rfl,rfl,aT HG2.out hg3⟩
theorem LU {q0:Nat×Nat} {b:Nat} {l:List Lex.Tok} {w:World} (h:RS q0 b l w):Calls Tryz.prog 205 #[.pointer (some ⟨b,0,none⟩)] w (vw q0 b w (Cy.gy l)):=by
 cases hm:Cy.mark [91] l with
 | some r=>exact LP h hm
 | none=>
  cases hs:Cy.eX l with
  | none=>
   refine (LQ h hm hs).mono ?_
   rintro e w' ⟨rfl,hg⟩
   refine ⟨hg, ?_⟩
   have:Cy.gy l=none:=by unfold Cy.gy;rw [hm];simp only;rw [hs];rfl
   rw [this]
  | some q=>
   obtain ⟨⟨k,n,x⟩,r⟩:=q
   refine (LG h hm hs).mono ?_
   rintro e w' ⟨u,rfl,h1,h2,h3⟩
   refine ⟨h3, ?_⟩
   have:Cy.gy l=some (⟨k,n,x, [], []⟩,r):=by unfold Cy.gy;rw [hm];simp only;rw [hs];rfl
   rw [this]
   exact ⟨u,rfl,h1,h2⟩
def aK (W:World) (B:Nat) (x:Gr.P×List Value):Prop:=
 ∃s t,x.2= [ST x.1.key, .int .i64 x.1.val.kind, .int .i64 x.1.val.num,ST x.1.val.text,s,t]∧W.ownsRow B 2 1 s x.1.val.nums.length (x.1.val.nums.map I64)∧W.ownsRow B 9 1 t x.1.val.texts.length (x.1.val.texts.map ST)
theorem aK.of {W:World} {B:Nat} {u:Value} {v:Cel.V} (h:gK W B u v) (key:List UInt8): ∃cs,u= .agg cs.toArray∧aK W B (⟨key,v⟩,ST key :: cs):=by
 obtain ⟨s,t,e,h1,h2⟩:=h.ex
 exact ⟨[.int .i64 v.kind, .int .i64 v.num, .string ⟨v.text.toArray⟩,s,t],e,s,t,rfl,h1,h2⟩
theorem aK.step {w w':World} {B b:Nat} {x:Gr.P×List Value} (h:aK w B x) (hg:w.grownBy w' (some b)) (hb:b<B):aK w' B x:=by
 obtain ⟨s,t,e,h1,h2⟩:=h
 exact ⟨s,t,e,bG h1 hg hb,bG h2 hg hb⟩
theorem aK.row {w w':World} {B:Nat} {row:Option Nat} {x:Gr.P×List Value} (h:aK w B x) (hg:w.grownBy w' row) (hty: ∀g c t fz,row=some g→w.heap[g]?=some (.cells c t fz)→t≠2∧t≠9):aK w' B x:=by
 obtain ⟨s,t,e,h1,h2⟩:=h
 exact ⟨s,t,e,aP h1 hg fun g c t' fz hr hc=>(hty g c t' fz hr hc).1,aP h2 hg fun g c t' fz hr hc=>(hty g c t' fz hr hc).2⟩
theorem aK.base {w:World} {B B':Nat} {x:Gr.P×List Value} (h:aK w B x) (hb:B'≤B):aK w B' x:=by
 obtain ⟨s,t,e,h1,h2⟩:=h
 exact ⟨s,t,e,own_base h1 hb,own_base h2 hb⟩
def aC (T:TypeId) (W:World) (B:Nat) (v:Value) (ps:List Gr.P):Prop:=
 ∃l:List (Gr.P×List Value),l.map Prod.fst=ps∧(∀x∈l,aK W B x)∧W.ownsRow B T 6 v ps.length (l.flatMap Prod.snd)
theorem aC.nil (T:TypeId) (W:World) (B:Nat):aC T W B (.slice none 0 0) []:=⟨[],rfl,by simp,World.ownsRow_nil _ _ _ _⟩
theorem aC.step {T:TypeId} {w w':World} {B b:Nat} {v:Value} {ps:List Gr.P} (h:aC T w B v ps) (hg:w.grownBy w' (some b)) (hb:b<B):aC T w' B v ps:=by
 obtain ⟨l,e,h1,h2⟩:=h
 exact ⟨l,e,fun x hx=>(h1 x hx).step hg hb,bG h2 hg hb⟩
theorem aC.base {T:TypeId} {w:World} {B B':Nat} {v:Value} {ps:List Gr.P} (h:aC T w B v ps) (hb:B'≤B):aC T w B' v ps:=by
 obtain ⟨l,e,h1,h2⟩:=h
 exact ⟨l,e,fun x hx=>(h1 x hx).base hb,own_base h2 hb⟩
theorem aC.put {T:TypeId} {w w':World} {B:Nat} {v v':Value} {ps:List Gr.P} {p:Gr.P} {cs:List Value} {l:List (Gr.P×List Value)} (hT:T≠2∧T≠9) (hl:l.map Prod.fst=ps) (h1: ∀x∈l,aK w B x) (hp:aK w B (p,cs))
  (hv:w.ownsRow B T 6 v ps.length (l.flatMap Prod.snd)) (hg:w.grownBy w' v.ownBlock) (hown:w'.ownsRow B T 6 v' (ps.length+1) (l.flatMap Prod.snd ++ cs)):aC T w' B v' (ps ++ [p]):=by
 have hty: ∀g c t fz,v.ownBlock=some g→w.heap[g]?=some (.cells c t fz)→t≠2∧t≠9:=fun g c t fz hr hc=>by
  obtain ⟨-,c',hc'⟩:=dZ hv g hr
  rw [hc'] at hc
  cases hc
  exact hT
 refine ⟨l ++ [(p,cs)],by rw [List.map_append,hl];rfl,fun x hx=> ?_, ?_⟩
 ·rcases List.mem_append.1 hx with hx | hx
  ·exact (h1 x hx).row hg hty
  ·rw [List.mem_singleton.1 hx];exact hp.row hg hty
 ·rw [List.length_append,List.flatMap_append]
  simpa using hown
def vC {α:Type} (q0:Nat×Nat) (b:Nat) (w:World) (R:World→Value→α→Prop) (o:Option (α×List Lex.Tok)) (e:Ending) (w':World):Prop:=
 w.grownBy w' (some b)∧match o with
  | none=>e= .panicked SYN
  | some (v,r)=> ∃u,e= .returned u∧R w' u v∧RS q0 b r w'
theorem LW:(Tryz.prog.info? 212).map (fun i=>(i.zero,i.size,i.bytes))=some (some (.agg #[.string ⟨#[]⟩, .int .i64 0, .int .i64 0, .string ⟨#[]⟩, .slice none 0 0, .slice none 0 0]),6,96):=by kernel_rfl
theorem Dl {q0:Nat×Nat} {b:Nat} {l:List Lex.Tok} {w:World} (h:RS q0 b l w):
  Calls Tryz.prog 146 #[.pointer (some ⟨b,0,none⟩)] w (vC q0 b w (fun W u v=>aC 212 W w.heap.size u v) (Cy.fO l)):=by
 obtain ⟨o,ho⟩: ∃o,Cy.fO l=o:=⟨_,rfl⟩
 rw [ho]
 unfold Cy.fO at ho
 have hu:=eu
 have HLT:=hq7 h.lt
 cases hc:Cy.mark [123] l with
 | none=>
  rw [hc] at ho
  have HM:=hq7 (cZ (z:=⟨#[123]⟩) h hc)
  have HO:=hq7 ho
  clear hc ho h
  go_enter Tryz.func146,Tryz.ntmps146
  go_wp2_with fail
  refine HM.out.mono ?_
  rintro e w1 ⟨rfl,hr,hg⟩
  have HR:=hq7 hr
  have HG:=hq7 hg
  clear hr hg
  go_wp2
  go_ret
  exact ⟨HG.out,by rw [←HO.out];exact ⟨_,rfl,aC.nil _ _ _,HR.out⟩⟩
 | some r1=>
 rw [hc] at ho
 have HM:=hq7 (dJ (z:=⟨#[123]⟩) h hc)
 cases hc2:Cy.mark [125] r1 with
 | some r2=>
  try simp only at ho
  rw [hc2] at ho
  have HO:=hq7 ho
  have HC:=hq7 hc2
  clear hc hc2 ho h
  go_enter Tryz.func146,Tryz.ntmps146
  go_wp2_with fail
  refine HM.out.mono ?_
  rintro e w1 ⟨rfl,hr,hg⟩
  have HM2:=hq7 (dJ (z:=⟨#[125]⟩) hr HC.out)
  have HG:=hq7 hg
  clear hr hg
  go_wp2_with fail
  refine HM2.out.mono ?_
  rintro e w2 ⟨rfl,hr,hg⟩
  have HR:=hq7 hr
  have HG2:=hq7 (aT HG.out hg)
  clear hr hg
  go_wp2
  go_ret
  exact ⟨HG2.out,by rw [←HO.out];exact ⟨_,rfl,aC.nil _ _ _,HR.out⟩⟩
 | none=>
 try simp only at ho
 rw [hc2] at ho
 try simp only at ho
 have HO:=hq7 ho
 have HC:=hq7 hc2
 clear hc hc2 ho h
 go_enter Tryz.func146,Tryz.ntmps146
 go_wp2_with fail
 refine HM.out.mono ?_
 rintro e w1 ⟨rfl,hr,hg⟩
 have HM2:=hq7 (cZ (z:=⟨#[125]⟩) hr HC.out)
 have HG:=hq7 hg
 clear hr hg
 go_wp2_with fail
 refine HM2.out.mono ?_
 rintro e w2 ⟨rfl,hr,hg⟩
 have HR:=hq7 hr
 have HG2:=hq7 (aT HG.out hg)
 clear hr hg HG HM HM2 HC
 go_wp2_with fail
 go_loopg [2] (r1.length+1) (fun g x2 wr=> ∃l' acc A c,x2= .slice A acc.length c∧RS q0 b l' wr∧w.grownBy wr (some b)∧aC 212 wr w.heap.size (.slice A acc.length c) acc∧l'.length<g∧Hid (Cy.jl g l' acc=o)∧acc.length+l'.length≤16777216)
 case atStart=>exact ⟨r1, [],none,0,rfl,HR.out,HG2.out,aC.nil _ _ _,by omega,HO.out,by have:=HR.out.len;simp;omega⟩
 case round=>
  obtain ⟨l',acc,A,c,rfl,hr,hg,hp,hlg,HE,hal⟩:=hrel
  have HR:=hq7 hr
  have HG:=hq7 hg
  have HP:=hq7 hp
  have HAL:=hq7 hal
  have HLG:=hq7 hlg
  clear hr hg hp hal HO HG2
  cases gk with
  | zero=>omega
  | succ f=>
  have he:_=o:=HE
  rw [Cy.jl] at he
  clear hlg HE
  cases hc:Cy.bT l' with
  | none=>
   rw [hc] at he
   have HM:=hq7 (lH HR.out hc)
   have HO:=hq7 he
   clear hc he
   go_wp2_with fail
   refine HM.out.mono ?_
   rintro e w3 ⟨rfl,hg3⟩
   exact ⟨rfl,aT HG.out hg3,by rw [←HO.out]⟩
  | some q=>
  obtain ⟨key,l1⟩:=q
  rw [hc] at he
  try simp only at he
  have hwd:=lG HR.out hc
  obtain ⟨zk,hzk⟩: ∃z:ByteArray,(⟨key.toArray⟩:ByteArray)=z:=⟨_,rfl⟩
  rw [hzk] at hwd
  have HM:=hq7 hwd
  have HZK:=hq7 hzk
  have HE:=hq7 he
  have HL1:=hq7 (Cy.jL hc HR.out.ok).2.2.1
  clear hc he hwd hzk
  go_wp2_with fail
  refine HM.out.mono ?_
  rintro e w3 ⟨rfl,hr3,hg3⟩
  have HR3:=hq7 hr3
  have HG3:=hq7 (aT HG.out hg3)
  have HP3:=hq7 (HP.out.step hg3 HLT.out)
  clear hr3 hg3 HR HG HP HM
  cases hc:Cy.mark [58] l1 with
  | none=>
   have HM:=hq7 (cZ (z:=⟨#[58]⟩) HR3.out hc)
   have he:=HE.out
   rw [hc] at he
   have HO:=hq7 he
   clear hc he
   go_wp2_with fail
   refine HM.out.mono ?_
   rintro e w4 ⟨rfl,hr4,hg4⟩
   have HG4:=hq7 (aT HG3.out hg4)
   clear hr4 hg4
   go_wp2_with fail
   refine (dX _ _).mono ?_
   rintro e w5 ⟨rfl,rfl⟩
   exact ⟨rfl,HG4.out,by rw [←HO.out]⟩
  | some l2=>
  have HM:=hq7 (dJ (z:=⟨#[58]⟩) HR3.out hc)
  have he:=HE.out
  rw [hc] at he
  try simp only at he
  have HE2:=hq7 he
  have HL2:=hq7 (Cy.bg hc).2
  clear hc he HE
  go_wp2_with fail
  refine HM.out.mono ?_
  rintro e w4 ⟨rfl,hr4,hg4⟩
  have HR4:=hq7 hr4
  have HG4:=hq7 (aT HG3.out hg4)
  have HP4:=hq7 (HP3.out.step hg4 HLT.out)
  clear hr4 hg4 HR3 HG3 HP3 HM
  go_wp2_with fail
  refine (dR _ _).mono ?_
  rintro e w5 ⟨rfl,rfl⟩
  have HLI:=hq7 (LU HR4.out)
  cases hc:Cy.gy l2 with
  | none=>
   have he:=HE2.out
   rw [hc] at he HLI
   have HO:=hq7 he
   clear hc he
   go_wp2_with fail
   refine HLI.out.mono ?_
   rintro e w6 ⟨hg6,rfl⟩
   exact ⟨rfl,aT HG4.out hg6,by rw [←HO.out]⟩
  | some q=>
  obtain ⟨v,l3⟩:=q
  have he:=HE2.out
  rw [hc] at he HLI
  try simp only at he
  have HE3:=hq7 he
  have HL3:=hq7 (Cy.BI hc HR4.out.ok HR4.out.len).2.2
  clear hc he HE2
  go_wp2_with fail
  refine HLI.out.mono ?_
  rintro e w6 ⟨hg6,u,rfl,hv6,hr6⟩
  have HR6:=hq7 hr6
  have HG6:=hq7 (aT HG4.out hg6)
  have HP6:=hq7 (HP4.out.step hg6 HLT.out)
  have hszw:w.heap.size≤w4.heap.size:=HG4.out.size
  have hsz6:w.heap.size≤w6.heap.size:=HG6.out.size
  obtain ⟨s,t,rfl,hn6,ht6⟩:=hv6.ex
  obtain ⟨A1,c1,rfl⟩:=ak hn6
  obtain ⟨A2,c2,rfl⟩:=ak ht6
  have HPO:=hq7 (show aK w6 w.heap.size (⟨key,v⟩, [ST key, .int .i64 v.kind, .int .i64 v.num,ST v.text, .slice A1 v.nums.length c1, .slice A2 v.texts.length c2]) from ⟨_,_,rfl,own_base hn6 (by omega),own_base ht6 (by omega)⟩)
  obtain ⟨ll,e1,e2,e3⟩:=HP6.out
  obtain ⟨al,hal⟩: ∃n,acc.length=n:=⟨_,rfl⟩
  rw [hal] at e3 HP6⊢
  have halb:al<536870912:=by have:=HAL.out;omega
  have H1:=hq7 e1
  have H2:=hq7 e2
  have H3:=hq7 e3
  have HALE:=hq7 hal
  obtain ⟨zv,hzv⟩: ∃z:ByteArray,(⟨v.text.toArray⟩:ByteArray)=z:=⟨_,rfl⟩
  have HZV:=hq7 hzv
  rw [hzv]
  clear hg6 hv6 hr6 hn6 ht6 e1 e2 e3 hal hzv HR4 HG4 HP4 HLI hszw
  go_wp2_with (at_builtin;refine zC rfl (.tmp 17) (.tmp 22) 100 212 (.agg #[.string ⟨#[]⟩, .int .i64 0, .int .i64 0, .string ⟨#[]⟩, .slice none 0 0, .slice none 0 0]) 6 96 Tryz.underlying100 LW rfl (by decide) (by decide) rfl w.heap.size (.slice A al c) al (ll.flatMap Prod.snd) w6 rfl H3.out [.string zk, .int .i64 v.kind, .int .i64 v.num, .string zv, .slice A1 v.nums.length c1, .slice A2 v.texts.length c2] _ rfl rfl (by simp [Value.oneCell']) rfl halb hsz6 ?_)
  intro v9 w9 hown9 hgr9 hwh9 hb9
  obtain ⟨A9,c9,rfl⟩:=ak hown9
  have hpo:=HPO.out
  have hst1:ST key= .string zk:=by rw [←HZK.out];rfl
  have hst2:ST v.text= .string zv:=by rw [←HZV.out];rfl
  rw [hst1,hst2] at hpo
  have HP9:=hq7 (aC.put (T:=212) (v:= .slice A acc.length c) (v':= .slice A9 (al+1) c9) (ps:=acc) ⟨by decide,by decide⟩ H1.out H2.out hpo (by rw [HALE.out];exact H3.out) (by rw [HALE.out];exact hgr9) (by rw [HALE.out];exact hown9))
  have HR9:=hq7 (HR6.out.below hb9 HLT.out)
  have HG9:=hq7 (show w.grownBy w9 (some b) from ⟨hb9.os.trans HG6.out.os,hb9.tape.trans HG6.out.tape,hb9.output.trans HG6.out.output,Nat.le_trans HG6.out.size hb9.size,fun i hi hne=>(hb9.block i hi).trans (HG6.out.block i hi hne)⟩)
  have hlen9:(acc ++ [(⟨key,v⟩:Gr.P)]).length=al+1:=by rw [List.length_append,HALE.out];rfl
  have HLEN:=hq7 hlen9
  clear hown9 hgr9 hwh9 hb9 hpo hst1 hst2 hlen9 HR6 HG6 HP6 HPO H1 H2 H3
  cases hc:Cy.mark [125] l3 with
  | some l4=>
   have HM:=hq7 (dJ (z:=⟨#[125]⟩) HR9.out hc)
   have he:=HE3.out
   rw [hc] at he
   have HO:=hq7 he
   clear hc he
   go_wp2_with fail
   refine HM.out.mono ?_
   rintro e w10 ⟨rfl,hr10,hg10⟩
   have HR10:=hq7 hr10
   have HG10:=hq7 (aT HG9.out hg10)
   have HP10:=hq7 (HP9.out.step hg10 HLT.out)
   clear hr10 hg10
   go_wp2
   go_ret
   exact ⟨HG10.out,by rw [←HO.out];exact ⟨_,rfl,HP10.out,HR10.out⟩⟩
  | none=>
  have HM:=hq7 (cZ (z:=⟨#[125]⟩) HR9.out hc)
  have he:=HE3.out
  rw [hc] at he
  have HE4:=hq7 he
  clear hc he HE3
  go_wp2_with fail
  refine HM.out.mono ?_
  rintro e w10 ⟨rfl,hr10,hg10⟩
  have HR10:=hq7 hr10
  have HG10:=hq7 (aT HG9.out hg10)
  have HP10:=hq7 (HP9.out.step hg10 HLT.out)
  clear hr10 hg10 HR9 HG9 HP9 HM
  cases hc:Cy.mark [44] l3 with
  | none=>
   have HM:=hq7 (cZ (z:=⟨#[44]⟩) HR10.out hc)
   have he:=HE4.out
   try simp only at he
   rw [hc] at he
   have HO:=hq7 he
   clear hc he
   go_wp2_with fail
   refine HM.out.mono ?_
   rintro e w11 ⟨rfl,hr11,hg11⟩
   have HG11:=hq7 (aT HG10.out hg11)
   clear hr11 hg11
   go_wp2_with fail
   refine (dX _ _).mono ?_
   rintro e w12 ⟨rfl,rfl⟩
   exact ⟨rfl,HG11.out,by rw [←HO.out]⟩
  | some l4=>
   have HM:=hq7 (dJ (z:=⟨#[44]⟩) HR10.out hc)
   have he:=HE4.out
   try simp only at he
   rw [hc] at he
   have HE5:=hq7 he
   have HL4:=hq7 (Cy.bg hc).2
   clear hc he
   go_wp2_with fail
   refine HM.out.mono ?_
   rintro e w11 ⟨rfl,hr11,hg11⟩
   have HR11:=hq7 hr11
   have HG11:=hq7 (aT HG10.out hg11)
   have HP11:=hq7 (HP10.out.step hg11 HLT.out)
   clear hr11 hg11 HR10 HG10 HP10
   go_wp2_with fail
   refine (dR _ _).mono ?_
   rintro e w12 ⟨rfl,rfl⟩
   go_wp2
   go_roundg f
   case measure=>omega
   case rel=>
    refine ⟨l4,acc ++ [(⟨key,v⟩:Gr.P)],A9,c9,by rw [HLEN.out],HR11.out,HG11.out, ?_, ?_,HE5, ?_⟩
    ·rw [HLEN.out];exact HP11.out
    ·have:=HLG.out;have:=HL1.out;have:=HL2.out;have:=HL3.out;have:=HL4.out;omega
    ·have:=HAL.out;have:=HALE.out;have:=HL1.out;have:=HL2.out;have:=HL3.out;have:=HL4.out;rw [HLEN.out];omega
theorem nZ {ops:Array Oper} {o:Oper} {a:Act} {K:Act→World→Prop} {Q:Exit→Act→World→Prop} {E:Prop} (f:FuncId) {args:Array Value} {W:World} {R:Value→World→Prop} (hgd:o.guard=none)
  (he:(execOp a.eval o).run Tryz.prog W= .ok (.enter f args) W) (hc:Calls Tryz.prog f args W fun e w'=> ∃v,e= .returned v∧R v w') (k: ∀v w',R v w'→K (a.put o.dst v) w'):
  if Region.wanted o (yielded ops a.tmps)=true then Oper.wp Tryz.prog o a W K Q else E:=by
 have hw:Region.wanted o (yielded ops a.tmps)=true:=by simp [Region.wanted,hgd]
 rw [if_pos hw]
 unfold Oper.wp
 rw [he]
 refine hc.mono ?_
 rintro e w' ⟨v,rfl,h⟩
 exact k v w' h
theorem LX {f:FuncId} {args:Array Value} {W:World} {u:Value} {R:World→Prop} (h:Calls Tryz.prog f args W fun e w'=>e= .returned u∧R w'):Calls Tryz.prog f args W fun e w'=> ∃v,e= .returned v∧(v=u∧R w'):=
 h.mono fun _ _ ⟨he,hr⟩=>⟨u,he,rfl,hr⟩
theorem lZ {ops:Array Oper} {o:Oper} {a:Act} {K:Act→World→Prop} {Q:Exit→Act→World→Prop} {E:Prop} (hgd:o.guard=none) (s x:Operand) (T e:TypeId) (z:Value) (sz bytes:Nat)
  (hT:Tryz.prog.underlying T=some (.slice e)) (hinfo:(Tryz.prog.info? e).map (fun i=>(i.zero,i.size,i.bytes))=some (some z,sz,bytes)) (hz:z.cells.size=sz) (hsz:0<sz) (hby:bytes≤200)
  (ho:o.op= .call {callee:= .builtin .append,args:= #[s,x],argTypes:= #[T,T]})
  (B:Nat) (v:Value) (n:Nat) (xs:List Value) (W:World) (hs:a.eval s=v) (h:W.ownsRow B e sz v n xs) (news:List Value) (cs:Array Value) (hcs:cs=news.toArray) (hnl:news.length=sz) (hu: ∀u∈news,u.oneCell'=true)
  (hx:a.eval x= .slice (some ⟨W.heap.size,0,none⟩) 1 1) (hl:n<536870912) (hB:B≤W.heap.size)
  (k: ∀v' w',w'.ownsRow B e sz v' (n+1) (xs ++ news)→W.grownBy w' v.ownBlock→(v'.ownBlock=v.ownBlock∨ ∃g,v'.ownBlock=some g∧W.heap.size≤g)→Below B W w'→K (a.put o.dst v') w'):
  if Region.wanted o (yielded ops a.tmps)=true then Oper.wp Tryz.prog o a (W.alloc (.cells cs e)) K Q else E:=by
 subst hcs
 have hw:Region.wanted o (yielded ops a.tmps)=true:=by simp [Region.wanted,hgd]
 rw [if_pos hw]
 obtain ⟨i0,hi,hz0,hz1,hz2⟩:=info_parts hinfo
 have hnews: ∀j u',news[j]?=some u'→(W.alloc (.cells news.toArray e)).cell? ((⟨W.heap.size,0,none⟩:Addr).add j)=some u':=zB _ _ _
 obtain ⟨v',w',hrun,h2,h3,h4,h5⟩:=run_append_own_at (P:=Tryz.prog) (W.alloc (.cells news.toArray e)) B T o.type e i0 z sz bytes hT hi hz0 hz1 hz2 hz hsz v n xs (World.ownsRow.alloc h _) ⟨W.heap.size,0,none⟩ 1 1 news (by omega) hnews hu (by unfold maxLen;omega) (by
  have:(n+1)*bytes≤536870912*200:=Nat.mul_le_mul (by omega) hby
  omega) (by simp;omega)
 unfold Oper.wp execOp
 simp only [ho,resolve,invoke,builtin,Sem.run_bind,Sem.run_pure,Result.andThen_ok,List.map_toArray,List.map_cons,List.map_nil,hs,hx,hrun]
 refine k v' w' h2 (aT (jF (bF W _) _) h3) (h5.imp id (fun h=>⟨_,h,by simp⟩)) ?_
 exact ((Below.refl B W).alloc hB _).grown h3 (by simp;omega) (fun j e=>(World.ownsRow.lt h j e).1)
end Go.Proofs.YtoofbflplhbpbaaGreatDoor
