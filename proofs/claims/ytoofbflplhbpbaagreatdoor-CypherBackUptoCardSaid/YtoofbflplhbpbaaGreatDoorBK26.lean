/- Contracts and plain laws,part 26. -/
import Derived.Test.YtoofbflplhbpbaaGreatDoorBK25
set_option maxHeartbeats 64000000
set_option maxRecDepth 1000000
set_option linter.all false
namespace Go.Proofs.YtoofbflplhbpbaaGreatDoor
open Go.RowKit
structure Kp (base:Nat) (w w':World):Prop where
 bel:Below base w w'
 keep: ∀(b:Nat) (c:Array Value) (t:TypeId) (fz:Nat×Nat),w.heap[b]?=some (.cells c t fz)→t≠99→t≠59→t≠63→w'.heap[b]?=some (.cells c t fz)
theorem Kp.refl (base:Nat) (w:World):Kp base w w:=⟨Below.refl _ _,fun _ _ _ _ h _ _ _=>h⟩
theorem Kp.trans {base:Nat} {a b c:World} (h:Kp base a b) (k:Kp base b c):Kp base a c:=
 ⟨h.bel.trans k.bel,fun i cs t fz hc h1 h2 h3=>k.keep i cs t fz (h.keep i cs t fz hc h1 h2 h3) h1 h2 h3⟩
theorem Kp.of_below {base:Nat} {w w':World} (h:Below w.heap.size w w') (hb:base≤w.heap.size):Kp base w w':=
 ⟨h.mono hb,fun b c t fz hc _ _ _=>(h.block b (Array.getElem?_eq_some_iff.1 hc).1).trans hc⟩
theorem Kp.iW {base g:Nat} {w w':World} (h:w.grownBy w' (some g)) (hb:base≤w.heap.size) (hg:base≤g)
  (hty: ∀c t fz,w.heap[g]?=some (.cells c t fz)→t=99∨t=59∨t=63):Kp base w w':=by
 refine ⟨⟨h.os,h.tape,h.output,h.size,fun k hk=>h.block k (by omega) (fun e=>by cases e;omega)⟩,fun b c t fz hc h1 h2 h3=> ?_⟩
 rw [h.block b (Array.getElem?_eq_some_iff.1 hc).1 ?_]
 ·exact hc
 ·intro e
  cases e
  rcases hty c t fz hc with e | e | e
  ·exact h1 e
  ·exact h2 e
  ·exact h3 e
theorem fH {base B e size n:Nat} {v:Value} {xs:List Value} {w w':World} (h:w.ownsRow B e size v n xs) (hk:Kp base w w') (h1:e≠99) (h2:e≠59) (h3:e≠63):w'.ownsRow B e size v n xs:=by
 obtain ⟨hl,h⟩:=h
 refine ⟨hl, ?_⟩
 rcases h with h |⟨g,cap,cur,hv,hb,hc,hr⟩
 ·exact .inl h
 ·exact .inr ⟨g,cap,cur,hv,hb,hk.keep _ _ _ _ hc h1 h2 h3,hr⟩
theorem aK.kp {base B:Nat} {x:Gr.P×List Value} {w w':World} (h:aK w B x) (hk:Kp base w w'):aK w' B x:=by
 obtain ⟨s,t,e,h1,h2⟩:=h
 exact ⟨s,t,e,fH h1 hk (by decide) (by decide) (by decide),fH h2 hk (by decide) (by decide) (by decide)⟩
theorem aC.kp {T:TypeId} {base B:Nat} {v:Value} {ps:List Gr.P} {w w':World} (h:aC T w B v ps) (hk:Kp base w w') (h1:T≠99) (h2:T≠59) (h3:T≠63):aC T w' B v ps:=by
 obtain ⟨l,e,hx,ho⟩:=h
 exact ⟨l,e,fun x hm=>(hx x hm).kp hk,fH ho hk h1 h2 h3⟩
theorem eG.kp {base B:Nat} {x:Cy.Pat×List Value} {w w':World} (h:eG w B x) (hk:Kp base w w'):eG w' B x:=by
 obtain ⟨s,t,e,h1,h2⟩:=h
 exact ⟨s,t,e,fH h1 hk (by decide) (by decide) (by decide),h2.kp hk (by decide) (by decide) (by decide)⟩
theorem fB.kp {base B:Nat} {v:Value} {ps:List Cy.Pat} {w w':World} (h:fB w B v ps) (hk:Kp base w w'):fB w' B v ps:=by
 obtain ⟨l,e,hx,ho⟩:=h
 exact ⟨l,e,fun x hm=>(hx x hm).kp hk,fH ho hk (by decide) (by decide) (by decide)⟩
def MB (o:Option Int) (w:World) (e:Ending) (w':World):Prop:=
 ∃n b,e= .returned (.tuple #[.int .i64 n, .bool b])∧Below w.heap.size w w'∧match o with
  | none=>b=false
  | some k=>b=true∧n=k∧Cel.In64 k∧0≤k
theorem Dv (c:UInt8):Lib.trimPrefix ([]:List UInt8) [c]= []∧Lib.hasPrefix ([]:List UInt8) [c]=false:=by
 constructor<;> rfl
theorem vK (c:UInt8) (r:List UInt8):Lib.trimPrefix (c :: r) [c]=r∧Lib.hasPrefix (c :: r) [c]=true:=by
 constructor<;> simp [Lib.trimPrefix,Lib.hasPrefix]
theorem Dw {c d:UInt8} (h:d≠c) (r:List UInt8):Lib.trimPrefix (d :: r) [c]=d :: r∧Lib.hasPrefix (d :: r) [c]=false:=by
 have e: [c].isPrefixOf (d :: r)=false:=by
  show (c == d && List.isPrefixOf [] r)=false
  rw [beq_eq_false_iff_ne.2 (Ne.symm h)]
  rfl
 refine ⟨?_,e⟩
 show (if [c].isPrefixOf (d :: r)=true then _ else _)=_
 rw [e]
 rfl
theorem MC (c:UInt8) (most:Int) (s:List UInt8) (h:Lib.hasPrefix s [c]=false):Cy.idP c most s=none:=by
 cases s with
 | nil=>rfl
 | cons d r=>
  show (if _ then _ else _)=_
  rw [if_neg]
  rintro ⟨rfl,-⟩
  rw [(vK d r).2] at h
  exact Bool.noConfusion h
theorem MF (c:UInt8) (most:Int) (s:List UInt8) (h:Lib.hasPrefix s [c]=true):Cy.idP c most s=if (Num.aW (Lib.trimPrefix s [c])).2=0∧0≤(Num.aW (Lib.trimPrefix s [c])).1∧(Num.aW (Lib.trimPrefix s [c])).1<most then some (Num.aW (Lib.trimPrefix s [c])).1 else none:=by
 cases s with
 | nil=>rw [(Dv c).2] at h;exact absurd h (by simp)
 | cons d r=>
  by_cases e:d=c
  ·subst e
   rw [(vK d r).1]
   unfold Cy.idP
   simp
  ·rw [(Dw e r).2] at h;exact absurd h (by simp)
theorem MG (s:List UInt8) (c:UInt8):(Lib.trimPrefix s [c]).length≤s.length:=by
 cases s with
 | nil=>simp [(Dv c).1]
 | cons d r=>
  by_cases e:d=c
  ·subst e;rw [(vK d r).1];simp
  ·rw [(Dw e r).1];exact Nat.le_refl _
theorem vM (z:ByteArray) (c:UInt8) (most:Int) (w:World) (hs:z.size≤1073741824) (hm:Cel.In64 most) (hL:Laid w):
  Calls Tryz.prog 89 #[.string z, .string ⟨#[c]⟩, .int .i64 most] w (MB (Cy.idP c most z.data.toList) w):=by
 obtain ⟨o,ho⟩: ∃o,Cy.idP c most z.data.toList=o:=⟨_,rfl⟩
 rw [ho]
 obtain ⟨H,hH⟩: ∃H,Lib.hasPrefix z.data.toList [c]=H:=⟨_,rfl⟩
 obtain ⟨y,hy⟩: ∃y:ByteArray,(⟨(Lib.trimPrefix z.data.toList [c]).toArray⟩:ByteArray)=y:=⟨_,rfl⟩
 obtain ⟨n,en,hne⟩: ∃n en,Num.aW y.data.toList=(n,en):=⟨_,_,rfl⟩
 have hc:=Tryz.strings_CutPrefix z ⟨#[c]⟩ w
 change Calls _ _ _ _ (fun e w'=>e= .returned (.tuple #[.string ⟨(Lib.trimPrefix z.data.toList [c]).toArray⟩, .bool (Lib.hasPrefix z.data.toList [c])])∧w'=w) at hc
 rw [hH,hy] at hc
 have hys:y.size≤1073741824:=by rw [←hy,aJ];exact Nat.le_trans (MG _ _) (by rw [←Lib.size_eq];exact hs)
 have hpi:=yK y w hys hL
 rw [hne] at hpi
 have h64:=Cy.Bz y.data.toList
 rw [hne] at h64
 have HO:=hq7 ho
 have HH:=hq7 hH
 have HY:=hq7 hy
 have HN:=hq7 hne
 have HC:=hq7 hc
 have HPI:=hq7 hpi
 have HU:=hq7 eu
 have H64:=hq7 h64
 clear ho hH hy hne hc hpi hs hys hL hm h64
 go_enter Tryz.func89,Tryz.ntmps89
 go_wp2_with fail
 refine HC.out.mono ?_
 rintro e w1 ⟨rfl,rfl⟩
 go_wp2_with fail
 refine HPI.out.mono ?_
 rintro e w2 ⟨rfl,hb⟩
 have HB:=hq7 hb
 clear hb
 cases H with
 | false=>
  have HE:=hq7 (show o=none by rw [←HO.out];exact MC _ _ _ HH.out)
  clear HO
  go_wp2
  go_ret2
  exact ⟨n,false,rfl,HB.out,by rw [HE.out]⟩
 | true=>
 have ho:=HO.out
 rw [MF _ _ _ HH.out] at ho
 have hyl:y.data.toList=Lib.trimPrefix z.data.toList [c]:=by rw [←HY.out]
 rw [←hyl,HN.out] at ho
 have HE:=hq7 ho
 clear ho hyl HO
 by_cases h1:en=0
 case neg=>
  have t1:((en:Int) == 0)=false:=by rw [beq_eq_false_iff_ne];omega
  have hx:o=none:=by rw [←HE.out,if_neg (fun h=>h1 h.1)]
  have HX:=hq7 hx
  clear hx h1
  go_wp2
  go_ret2
  exact ⟨n,false,rfl,HB.out,by rw [HX.out]⟩
 subst h1
 by_cases h2:0≤n
 case neg=>
  have t2:decide (0≤n)=false:=decide_eq_false h2
  have hx:o=none:=by rw [←HE.out,if_neg (fun h=>h2 h.2.1)]
  have HX:=hq7 hx
  clear hx
  go_wp2
  go_ret2
  exact ⟨n,false,rfl,HB.out,by rw [HX.out]⟩
 have t2:decide (0≤n)=true:=decide_eq_true h2
 by_cases h3:n<most
 case neg=>
  have t3:decide (n<most)=false:=decide_eq_false h3
  have hx:o=none:=by rw [←HE.out,if_neg (fun h=>h3 h.2.2)]
  have HX:=hq7 hx
  clear hx
  go_wp2
  go_ret2
  exact ⟨n,false,rfl,HB.out,by rw [HX.out]⟩
 have t3:decide (n<most)=true:=decide_eq_true h3
 have hx:o=some n:=by rw [←HE.out,if_pos ⟨rfl,h2,h3⟩]
 have HX:=hq7 hx
 have H2:=hq7 h2
 clear hx
 go_wp2
 go_ret2
 exact ⟨n,true,rfl,HB.out,by rw [HX.out];exact ⟨rfl,rfl,H64.out,H2.out⟩⟩
theorem pair_cells {W:World} {base:Nat} {T:TypeId} {A:Option Addr} {n c:Nat} {l:List (Gr.P×List Value)} (h:W.ownsRow base T 6 (.slice A n c) n (l.flatMap Prod.snd)) (hn:l.length=n) (hx: ∀x∈l,x.2.length=6)
  {k:Nat} {x:Gr.P×List Value} (hk:l[k]?=some x): ∃g off,A=some ⟨g,off,none⟩∧g<W.heap.size∧ ∀(j:Nat) u,x.2[j]?=some u→W.cell? ⟨g,off+k*6+j,none⟩=some u:=by
 subst hn
 obtain ⟨b,off,cs,e,hlt,hr,-,hc⟩:=Lst.dL (R:=fun a cs=>cs=a.2) (f:=Prod.snd) h hx (fun _ _=>rfl) k x hk
 subst hr
 exact ⟨b,off,e,hlt,hc⟩
theorem aK.form {W:World} {B:Nat} {p:Gr.P} {cs:List Value} (h:aK W B (p,cs)): ∃A1 c1 A2 c2,cs= [ST p.key, .int .i64 p.val.kind, .int .i64 p.val.num,ST p.val.text, .slice A1 p.val.nums.length c1, .slice A2 p.val.texts.length c2]∧
  W.ownsRow B 2 1 (.slice A1 p.val.nums.length c1) p.val.nums.length (p.val.nums.map I64)∧W.ownsRow B 9 1 (.slice A2 p.val.texts.length c2) p.val.texts.length (p.val.texts.map ST):=by
 obtain ⟨s,t,e,h1,h2⟩:=h
 obtain ⟨A1,c1,rfl⟩:=ak h1
 obtain ⟨A2,c2,rfl⟩:=ak h2
 exact ⟨A1,c1,A2,c2,e,h1,h2⟩
theorem aK.below {w w':World} {B:Nat} {x:Gr.P×List Value} (h:aK w B x) (hb:Below w.heap.size w w'):aK w' B x:=h.row (bJ hb none) (fun g c t fz hr=>by cases hr)
theorem PSz.vok {p:Gr.P} (h:Cy.PSz p):VOk p.val:=by
 have h1:=h.val.tl
 have h2:=h.val.nl
 have h3:=h.val.sl
 have h4:=h.val.kin
 exact ⟨⟨by omega,by omega⟩,h.val.num,h.val.nums,by omega,by omega,by omega,fun t ht=>by have:=h.val.sz t ht;omega⟩
structure MpS (w:World) (B:Nat) (l:List (Gr.P×List Value)) (k:Nat) (v:Value) (V:World):Prop where
 bel:Below w.heap.size w V
 map:bn V w.heap.size ((l.take k).map fun x=>x.1.key)
 row:V.ownsRow (w.heap.size+1) 61 6 v k ((l.take k).flatMap Prod.snd)
theorem MpS.below {w V V':World} {B k:Nat} {l:List (Gr.P×List Value)} {v:Value} (h:MpS w B l k v V) (hb:Below V.heap.size V V'):MpS w B l k v V':=
 ⟨h.bel.trans (hb.mono h.bel.size),h.map.below hb,aP h.row (bJ hb none) (fun g c t fz hr=>by cases hr)⟩
theorem MH:(Tryz.prog.info? 61).map (fun i=>(i.zero,i.size,i.bytes))=some (some (.agg #[.string ⟨#[]⟩, .int .i64 0, .int .i64 0, .string ⟨#[]⟩, .slice none 0 0, .slice none 0 0]),6,96):=by kernel_rfl
def MI (B:Nat) (w:World) (ps:List Gr.P) (R:Nat) (e:Ending) (w':World):Prop:=
 ∃v,e= .returned (.tuple #[v, .int .i64 (R:Nat)])∧Below w.heap.size w w'∧(R=0→aC 61 w' B v ps)∧(R≠0→v= .slice none 0 0)
theorem Dx (B:Nat) (A:Option Addr) (n c:Nat) (ps:List Gr.P) (w:World) (h:aC 212 w B (.slice A n c) ps) (hn:ps.length=n) (hn2:n≤16777216) (hs: ∀p∈ps,Cy.PSz p) (hB:B≤w.heap.size):
  Calls Tryz.prog 91 #[.slice A n c] w (MI B w ps (Cy.aQ [] ps)):=by
 obtain ⟨R,hR⟩: ∃R,Cy.aQ [] ps=R:=⟨_,rfl⟩
 rw [hR]
 obtain ⟨l,hl,hx,ho⟩:=h
 rw [hn] at ho
 have hll:l.length=n:=by rw [←hn,←hl,List.length_map]
 have HX:=hq7 hx
 have HX6:=hq7 (show∀x∈l,x.2.length=6 from fun x hm=>by obtain ⟨s,t,e,-⟩:=hx x hm;rw [e];rfl)
 have HO:=hq7 ho
 have HL:=hq7 hl
 have HLL:=hq7 hll
 have HR:=hq7 hR
 have HBw:=hq7 hB
 have HSZ:=hq7 hs
 have HS0:=hq7 (show MpS w B l 0 (.slice none 0 0) (w.alloc (.map #[] 0)) from ⟨(Below.refl _ w).alloc (Nat.le_refl _) _,by rw [List.take_zero];exact bn.made w,by rw [List.take_zero];exact World.ownsRow_nil _ _ _ _⟩)
 obtain ⟨W0,hW0⟩: ∃W,w.alloc (.map #[] 0)=W:=⟨_,rfl⟩
 rw [hW0] at HS0
 have HW0:=hq7 hW0
 have hmm:= @run_makeMap Tryz.prog
 clear hl hx ho hll hR hB hs hn hW0
 go_enter Tryz.func91,Tryz.ntmps91
 go_upto_region 2 with fail
 rw [HW0.out]
 clear hmm HW0
 go_wp2_with fail
 go_loopg [2,11] n (fun q x y wr=> ∃k:Nat,∃A' c',x= .slice A' k c'∧y= .int .i64 k∧k+q=n∧MpS w B l k (.slice A' k c') wr∧Hid (Cy.aQ ((l.take k).map fun x=>x.1.key) (ps.drop k)=R))
 case atStart=>exact ⟨0,none,0,rfl,rfl,by omega,HS0.out,HR.out⟩
 case round=>
  obtain ⟨k,A1,c1,rfl,rfl,hk,hs,HE⟩:=hrel
  have HS:=hq7 hs
  have HK:=hq7 hk
  clear hs HS0 HR
  cases gk with
  | zero=>
   obtain rfl:k=n:=by omega
   have he:_=R:=HE
   have hd:ps.drop k= []:=by rw [←HL.out];exact List.drop_of_length_le (by rw [List.length_map,HLL.out];exact Nat.le_refl _)
   rw [hd] at he
   have hr0:R=0:=by rw [←he];simp [Cy.aQ]
   have hrow:=HS.out.row
   rw [List.take_of_length_le (by rw [HLL.out];exact Nat.le_refl _)] at hrow
   subst hr0
   have hpo:aC 61 wr B (.slice A1 k c1) ps:=⟨l,HL.out,fun x hm=>(HX.out x hm).below HS.out.bel,by rw [←HL.out,List.length_map,HLL.out];exact own_base hrow (by have:=HBw.out;omega)⟩
   have HPO:=hq7 hpo
   clear he hd hrow hpo HE hk
   go_wp2
   go_ret2
   exact ⟨_,rfl,HS.out.bel,fun _=>HPO.out,fun h=>absurd rfl h⟩
  | succ q=>
   have hkn:k<n:=by omega
   have hknI:(k:Int)<n:=by omega
   obtain ⟨x,hxk⟩: ∃x,l[k]?=some x:=⟨_,List.getElem?_eq_getElem (by rw [HLL.out];exact hkn)⟩
   obtain ⟨p,cs⟩:=x
   have hpk:ps[k]?=some p:=by rw [←HL.out,List.getElem?_map,hxk];rfl
   have hdr:ps.drop k=p :: ps.drop (k+1):=by
    rw [List.drop_eq_getElem_cons (by rw [←HL.out,List.length_map,HLL.out];exact hkn)]
    congr 1
    exact Option.some.inj ((List.getElem?_eq_getElem _).symm.trans hpk)
   have htk:l.take (k+1)=l.take k ++ [(p,cs)]:=by rw [List.take_add_one,hxk];rfl
   have hpo:=HX.out _ (List.mem_of_getElem? hxk)
   obtain ⟨g,off,rfl,hgl,hcl⟩:=pair_cells HO.out HLL.out HX6.out hxk
   obtain ⟨An,cn,At,ct,rfl,hn1,ht1⟩:=hpo.form
   have hcell:=fun (j:Nat) u (hu:([ST p.key, .int .i64 p.val.kind, .int .i64 p.val.num,ST p.val.text, .slice An p.val.nums.length cn, .slice At p.val.texts.length ct]:List Value)[j]?=some u)=>(HS.out.bel.cell (p:=⟨g,off+k*6+j,none⟩) hgl).trans (hcl j u hu)
   have d0:=hcell 0 _ rfl
   have d1:=hcell 1 _ rfl
   have d2:=hcell 2 _ rfl
   have d3:=hcell 3 _ rfl
   have d4:=hcell 4 _ rfl
   have d5:=hcell 5 _ rfl
   rw [Nat.add_zero] at d0
   obtain ⟨zk,hzk⟩: ∃z:ByteArray,(⟨p.key.toArray⟩:ByteArray)=z:=⟨_,rfl⟩
   obtain ⟨zt,hzt⟩: ∃z:ByteArray,(⟨p.val.text.toArray⟩:ByteArray)=z:=⟨_,rfl⟩
   have e1:ST p.key= .string zk:=by rw [←hzk];rfl
   have e2:ST p.val.text= .string zt:=by rw [←hzt];rfl
   rw [e1] at d0
   rw [e2] at d3
   obtain ⟨WN,hWN⟩: ∃W,wr.alloc (.cells #[.string zk, .int .i64 p.val.kind, .int .i64 p.val.num, .string zt, .slice An p.val.nums.length cn, .slice At p.val.texts.length ct] 212)=W:=⟨_,rfl⟩
   have hbn:Below wr.heap.size wr WN:=by rw [←hWN];exact (Below.refl _ _).alloc (Nat.le_refl _) _
   obtain ⟨nd,hnd⟩: ∃x,wr.heap.size=x:=⟨_,rfl⟩
   have hk0:Blk WN nd 212 #[.string zk, .int .i64 p.val.kind, .int .i64 p.val.num, .string zt, .slice An p.val.nums.length cn, .slice At p.val.texts.length ct]:=by rw [←hWN,←hnd];exact Blk.new _ _ _
   have HSN:=hq7 (HS.out.below hbn)
   have HNE:=hq7 (show nd≠w.heap.size by have:=HS.out.map.lt;omega)
   have hps:=HSZ.out p (List.mem_of_getElem? hpk)
   have hzks:zk.size≤16777216:=by rw [←hzk,aJ];exact hps.key
   have HKZ:=hq7 (show zk.data.toList=p.key by rw [←hzk])
   have HVI:=hq7 (fun (V:World) (hb:Below w.heap.size w V)=>(show VIn V V.heap.size (.agg #[.int .i64 p.val.kind, .int .i64 p.val.num, .string zt, .slice An p.val.nums.length cn, .slice At p.val.texts.length ct]) p.val by rw [←e2];exact jO (PSz.vok hps) ((Reads.dL (aP hn1 (bJ hb none) (fun g c t fz hr=>by cases hr)))) ((Reads.dL (aP ht1 (bJ hb none) (fun g c t fz hr=>by cases hr))))))
   have HND:=hq7 hk0
   have HPO:=hq7 (HX.out _ (List.mem_of_getElem? hxk))
   have HPS:=hq7 hps
   have HWN:=hq7 hWN
   have HTK:=hq7 htk
   have HDR:=hq7 hdr
   have HES:=hq7 (And.intro e1 e2)
   have hgn:=lY zk WN (by omega)
   rw [show zk.data.toList=p.key from HKZ.out] at hgn
   have he:_=R:=HE
   rw [hdr] at he
   rw [Cy.aQ] at he
   obtain ⟨GB,hGB⟩: ∃b,Gr.aI p.key=b:=⟨_,rfl⟩
   rw [hGB] at he hgn
   have HE2:=hq7 he
   have HGN:=hq7 hgn
   clear hxk hpk hdr htk hpo hgl hcl hn1 ht1 hcell hzk hzt e1 e2 hWN hbn hk0 hps hgn he hGB HE HS hk
   go_upto_region 5 with fail
   rw [HWN.out]
   try rw [hnd]
   clear hnd d0 d1 d2 d3 d4 d5 HWN
   obtain ⟨d0,d1,d2,d3,d4,d5⟩:=cells6 HND.out
   go_wp2_with fail
   refine HGN.out.mono ?_
   rintro e w1 ⟨rfl,rfl⟩
   cases GB with
   | false=>
    have hr:R=60:=by rw [←HE2.out,if_pos rfl]
    subst hr
    go_wp2
    go_ret2
    exact ⟨_,rfl,HSN.out.bel,fun h=>absurd h (by decide),fun _=>rfl⟩
   | true=>
   have he:=HE2.out
   rw [if_neg (by decide)] at he
   have HE3:=hq7 he
   clear he HE2 HGN
   obtain ⟨LK,hLK⟩: ∃L,(l.take k).map (fun x=>x.1.key)=L:=⟨_,rfl⟩
   have hlk:=HSN.out.map
   rw [hLK] at hlk
   have hlk1:=hlk.look (t:=150) Tryz.underlying150 (s:=zk) (by unfold maxLen;omega)
   rw [show zk.data.toList=p.key from HKZ.out] at hlk1
   obtain ⟨N,hN⟩: ∃N,LK.count p.key=N:=⟨_,rfl⟩
   have hLl:LK.length≤k:=by rw [←hLK,List.length_map,List.length_take];omega
   have hNle:N≤LK.length:=by rw [←hN];exact List.count_le_length
   rw [hN] at hlk1
   have hNi:(N:Int)≤16777216:=by omega
   have HCM:=hq7 hlk
   have HNC:=hq7 hN
   have HLK:=hq7 hLK
   have HZK:=hq7 hzks
   have hLl2:LK.length≤16777216:=by omega
   have HLl:=hq7 hLl2
   clear hlk hN hLK hLl hNle hzks hLl2
   go_wp2_with (at_mapUpdate;refine qJ _ rfl HCM.out (by have:=HLl.out;omega) (.tmp 19) (.tmp 21) (.tmp 23) 150 rfl Tryz.underlying150 rfl zk (by have:=HZK.out;unfold maxLen;omega) rfl (by rw [show zk.data.toList=p.key from HKZ.out,HNC.out];rfl) ?_)
   intro w1 hc1 hg1
   rw [show zk.data.toList=p.key from HKZ.out] at hc1
   have HB1:=hq7 (show Below w.heap.size w w1 from HSN.out.bel.trans ⟨hg1.os,hg1.tape,hg1.output,hg1.size,fun i hi=>hg1.block i (Nat.lt_of_lt_of_le hi HSN.out.bel.size) (fun e=>by cases e;omega)⟩)
   have HR1:=hq7 (bG HSN.out.row hg1 (Nat.lt_succ_self _))
   have hk1:=HND.out.grown hg1 (fun e=>HNE.out (Option.some.inj e))
   have HC1:=hq7 hc1
   have HND1:=hq7 hk1
   have hlk2:=hc1.look (t:=150) Tryz.underlying150 (s:=zk) (by have:=HZK.out;unfold maxLen;omega)
   rw [show zk.data.toList=p.key from HKZ.out,List.count_append,HNC.out,List.count_singleton_self] at hlk2
   clear hc1 hg1 hlk1 d0 d1 d2 d3 d4 d5 HSN HND HCM
   obtain ⟨d0,d1,d2,d3,d4,d5⟩:=cells6 hk1
   clear hk1
   by_cases hN0:N=0
   case neg=>
    have t1:decide ((1:Int)<((N+1:Nat):Int))=true:=decide_eq_true (by omega)
    have hr:R=7:=by
     rw [←HE3.out,HLK.out,if_pos (List.count_pos_iff.1 (by rw [HNC.out];omega))]
    subst hr
    go_wp2
    go_ret2
    exact ⟨_,rfl,HB1.out,fun h=>absurd h (by decide),fun _=>rfl⟩
   subst hN0
   have he:=HE3.out
   rw [HLK.out,if_neg (fun h=>by have:=List.count_pos_iff.2 h;rw [HNC.out] at this;omega)] at he
   obtain ⟨cv,hcv⟩: ∃c,Cel.check p.val=c:=⟨_,rfl⟩
   rw [hcv] at he
   have HE4:=hq7 he
   have hck:=check_any w1.heap.size _ p.val w1 (HVI.out w1 HB1.out) (Nat.le_refl _)
   rw [hcv] at hck
   have HCK:=hq7 hck
   have t1:decide ((1:Int)<((0+1:Nat):Int))=false:=decide_eq_false (by omega)
   clear he hcv hck HE3
   go_wp2_with fail
   refine HCK.out.mono ?_
   rintro e w2 ⟨rfl,hb2⟩
   have HB2:=hq7 (HB1.out.trans (hb2.mono HB1.out.size))
   have hr2:=aP HR1.out (bJ hb2 none) (fun g c t fz hr=>by cases hr)
   have HC2:=hq7 (HC1.out.below hb2)
   have hk2:=HND1.out.below hb2 HND1.out.lt
   clear d0 d1 d2 d3 d4 d5 hlk2 t1 HC1 HB1 HR1 HND1 HCK
   by_cases hc0:cv=0
   case neg=>
    have t1:((cv:Int) !=0)=true:=by rw [bne_iff_ne];omega
    have hr:R=cv:=by rw [←HE4.out,if_pos hc0]
    subst hr
    clear hb2 hr2 hk2
    have HC0:=hq7 hc0
    clear hc0
    go_wp2
    go_ret2
    exact ⟨_,rfl,HB2.out,fun h=>absurd h HC0.out,fun _=>rfl⟩
   subst hc0
   have he:=HE4.out
   rw [if_neg (by decide)] at he
   have HE5:=hq7 he
   have HR2:=hq7 hr2
   obtain ⟨d0,d1,d2,d3,d4,d5⟩:=cells6 hk2
   have hsz2:w.heap.size+1≤w2.heap.size:=HC2.out.lt
   have hkb:k<536870912:=by omega
   clear hb2 hr2 hk2 he HE4
   go_wp2_with (at_builtin;refine zC rfl (.tmp 35) (.tmp 41) 57 61 (.agg #[.string ⟨#[]⟩, .int .i64 0, .int .i64 0, .string ⟨#[]⟩, .slice none 0 0, .slice none 0 0]) 6 96 Tryz.underlying57 MH rfl (by decide) (by decide) rfl (w.heap.size+1) (.slice A1 k c1) k ((l.take k).flatMap Prod.snd) w2 rfl HR2.out [.string zk, .int .i64 p.val.kind, .int .i64 p.val.num, .string zt, .slice An p.val.nums.length cn, .slice At p.val.texts.length ct] _ rfl rfl (by simp [Value.oneCell']) rfl hkb hsz2 ?_)
   intro v9 w9 hown9 hgr9 hwh9 hb9
   obtain ⟨A9,c9,rfl⟩:=ak hown9
   have HS9:=hq7 (show MpS w B l (k+1) (.slice A9 (k+1) c9) w9 from ⟨HB2.out.trans (hb9.mono (Nat.le_succ _)),by rw [HTK.out,List.map_append,HLK.out];exact bn.kept HC2.out hgr9 (fun e=>by have:=(dZ HR2.out _ e.symm).1;omega),by rw [HTK.out,List.flatMap_append,List.flatMap_cons,List.flatMap_nil,List.append_nil,HES.out.1,HES.out.2];exact hown9⟩)
   clear hown9 hgr9 hwh9 hb9 d0 d1 d2 d3 d4 d5
   go_wp2
   go_roundg q
   case measure=>omega
   case rel=>exact ⟨k+1,A9,c9,rfl,int_eq (by omega),by have:=HK.out;omega,HS9.out,by rw [HTK.out,List.map_append,HLK.out];exact HE5.out⟩
end Go.Proofs.YtoofbflplhbpbaaGreatDoor
