/- Contracts and plain laws,part 42. -/
import Derived.Test.YtkdakckjafomhaaGreatDoorUW41
set_option maxHeartbeats 64000000
set_option maxRecDepth 1000000
set_option linter.all false
namespace Go.Proofs.YtkdakckjafomhaaGreatDoor
open Go.RowKit
def yS (V:World) (b:Nat) (ids:List Int):Prop:= ∃cs:Array Value,au V b 107 cs/\cs.size=2048/\ ∀i:Nat,i<2048->cs[i]?=some (.bool (decide ((i:Int)∈ids)))
theorem yS.below {V V':World} {b:Nat} {ids:List Int} (h:yS V b ids) (hb:Below V.heap.size V V'):yS V' b ids:=by
 obtain⟨cs,h1,h2⟩:=h;exact⟨cs,h1.below hb h1.lt,h2⟩
theorem yS.cell {V:World} {b:Nat} {ids:List Int} (h:yS V b ids) {i:Nat} (hi:i<2048):V.cell? ⟨b,i,none⟩=some (.bool (decide ((i:Int)∈ids)))/\V.frozen? ⟨b,i,none⟩=false:=by
 obtain⟨cs,h1,h2,h3⟩:=h;exact⟨(h1.cell i).trans (h3 i hi),h1.frozen i⟩
theorem yS.put {V:World} {b:Nat} {ids:List Int} (h:yS V b ids) {i:Nat} (hi:i<2048):yS (V.setCell ⟨b,i,none⟩ (.bool true)) b (ids++[(i:Int)]):=by
 obtain⟨cs,h1,h2,h3⟩:=h
 refine⟨_,h1.bP i (.bool true),by rw[ara];exact h2,fun j hj=> ?_⟩
 rw[aoj]
 split
 ·rename_i e
  subst e;rw[adk (by omega)]
  simp
 rename_i e;rw[h3 j hj]
 congr 2
 rw[agn];simp only[aei,aem,ael]
 constructor
 ·exact .inl
 rintro(h|h)
 ·exact h
 omega
theorem amh:(Tryz.prog.info? 107).map (fun i=>(i.zero,i.size))=some (some (.agg (Array.replicate 2048 (.bool false))),2048):=by kernel_rfl
theorem ami: ∃cs:Array Value,cs.size=2048/\(∀w,(zeroValue 107).run Tryz.prog w=.ok (.agg cs) w)/\
  (∀W:World,(storeCells ⟨W.heap.size,0,none⟩ cs.toList 0).run Tryz.prog (W.alloc (.cells cs 107))=.ok () (W.alloc (.cells cs 107)))/\ ∀W:World,yS (W.alloc (.cells cs 107)) W.heap.size []:=by
 have hcz:(Array.replicate 2048 (Value.bool false)).size=2048:=Array.size_replicate
 obtain⟨hz,hi⟩:=zero_of_info amh
 refine⟨Array.replicate 2048 (Value.bool false),hcz,hz,fun W=>run_storeCells_new (P:=Tryz.prog) W 107 _ _ (by rw[hcz];exact hi) rfl ?_,fun W=>⟨_,au.new _ _ _,hcz,fun i hi=> ?_⟩⟩
 ·rw[aq7]
  intro i hi;rw[arn];rfl
 rw[arb,adk hi];simp
def amj (R:List Gr.R×Nat) (w:World) (e:Ending) (w':World):Prop:=
 ∃v,e=.returned (.tuple #[v,.int .i64 (R.2:Nat)])/\(R.2=0->gu w' w.heap.size v R.1)/\Below w.heap.size w w'
structure yT (w:World) (ids:List Int) (acc:List Gr.R) (hs:List Int) (v:Value) (V:World):Prop where
 arr:There V w.heap.size ids
 had:yS V (w.heap.size+1+1) hs
 own:gu V w.heap.size v acc
 bel:Below w.heap.size w V
section
variable {w V V':World} {ids hs:List Int} {acc:List Gr.R} {v:Value}
theorem yT.below (h:yT w ids acc hs v V) (hb:Below V.heap.size V V'):yT w ids acc hs v V':=
 ⟨h.arr.below hb,h.had.below hb,h.own.k0 (base:=0) ⟨⟨hb.os,hb.tape,hb.output,hb.size,fun i hi=>absurd hi (arv _)⟩,fun b c t fz hc _=>(hb.block b (adZ.1 hc).1).trans hc⟩,h.bel.trans (hb.mono h.bel.size)⟩
theorem yT.put (h:yT w ids acc hs v V) {i:Nat} (hi:i<2048):yT w ids acc (hs++[(i:Int)]) v (V.setCell ⟨w.heap.size+1+1,i,none⟩ (.bool true)):=by
 obtain⟨cs,h3,-,-⟩:=h.had;obtain⟨cs0,h1,h2⟩:=h.arr
 exact⟨⟨cs0,h1.far (by simp;omega) _,h2⟩,h.had.put hi,h.own.kt (Kt.cell (base:=0) h3 (afP _) i _) (by decide) (by decide) (by decide) (by decide),h.bel.setCell (p:=⟨w.heap.size+1+1,i,none⟩) (show w.heap.size<=w.heap.size+1+1 by omega) _⟩
end
theorem amk (B:Nat) (A:Option Addr) (n c:Nat) (rows:List (List (List UInt8))) (Hr:Array Value) (ids:List Int) (w:World) (h:kY w B (.slice A n c) rows) (hn:rows.length=n) (hnb:n<=16777217) (hrow: ∀r∈rows,Tb.Row r) (hB:B<=w.heap.size) (hP:Kq Hr ids):
  Calls Tryz.prog 16 #[.slice A n c,.agg Hr] w (amj (Tb.oL ids rows) w):=by
 obtain⟨R,hR⟩:=aj (Tb.oL ids rows);rw[hR];unfold Tb.oL at hR
 obtain⟨cs,hcz,hz,hsc,hst⟩:=ami
 have hsc:=hsc ((w.alloc (.cells Hr 59)).alloc (.cells #[] 44))
 have hst:=hst ((w.alloc (.cells Hr 59)).alloc (.cells #[] 44))
 rw[World.size_alloc,World.size_alloc]at hsc hst
 obtain⟨W1,hW1⟩:=aj (((w.alloc (.cells Hr 59)).alloc (.cells #[] 44)).alloc (.cells cs 107))
 have hb1:Below w.heap.size w W1:=hW1▸(((Below.refl _ w).alloc (ac4 _) _).alloc (by simp) _).alloc (by simp;omega) _
 rw[hW1]at hst
 have hS1:yT w ids [] [] (.slice (some ⟨w.heap.size+1,0,none⟩) 0 0) W1:=⟨⟨Hr,hW1▸((au.new w _ _).alloc _).alloc _,hP.1,hP.2⟩,hst,⟨[],rfl,(fun x h=>by cases h),by
  have h1:=JG (w.alloc (.cells Hr 59)) w.heap.size 44 5 (by simp)
  rw[World.size_alloc]at h1;rw[<-hW1]
  exact World.ownsRow.alloc h1 _⟩,hb1⟩
 obtain⟨W2,hW2⟩:=aj (W1.alloc (.cells #[.string ⟨#[58,73,68]⟩,.string ⟨#[58,83,84,65,82,84]⟩,.string ⟨#[58,69,78,68]⟩,.string ⟨#[58,84,89,80,69]⟩] 9))
 have hb2:Below W1.heap.size W1 W2:=hW2▸(Below.refl _ W1).alloc (ac4 _) _
 have hk2:au W2 W1.heap.size 9 #[.string ⟨#[58,73,68]⟩,.string ⟨#[58,83,84,65,82,84]⟩,.string ⟨#[58,69,78,68]⟩,.string ⟨#[58,84,89,80,69]⟩]:=hW2▸au.new _ _ _
 have hwr:Reads W2 W2.heap.size 1 (some ⟨W1.heap.size,0,none⟩) 4 (Tb.iR.map ST):=⟨rfl,fun _=>⟨_,0,rfl,hk2.lt,fun j u hu=>by rw[afW,hk2.cell j,show(#[.string ⟨#[58,73,68]⟩,.string ⟨#[58,83,84,65,82,84]⟩,.string ⟨#[58,69,78,68]⟩,.string ⟨#[58,84,89,80,69]⟩]:Array Value)=(Tb.iR.map ST).toArray from rfl,adE];exact hu⟩⟩
 have CG:=acS B A (some ⟨W1.heap.size,0,none⟩) n c 4 4 rows Tb.iR W2 (h.below ((hb1.trans (hb2.mono hb1.size)).mono hB)) hn (by omega) hwr (by decide) (by decide) hrow (adg hB (adg hb1.size hb2.size))
 obtain⟨HP,Hq⟩:=aj (Tb.dK Tb.iR rows);rw[Hq]at CG hR;obtain⟨hwb,hhb⟩:=aj HP.isNone
 rw[hhb]at CG;have NV:=ah CG;have HW1:=ah hW1;have HW2:=ah hW2
 have HS2:=ah (hS1.below hb2);have HR:=ah hR;have vO:=ah Hq
 have HRW:=ah (fun(V:World) (hb:Below w.heap.size w V)=>h.below (hb.mono hB))
 have jO:=ah hrow;have HN:=ah hn;have dh:=ah hB
 clear CG hW1 hW2 hst hS1 hb1 hb2 hk2 hwr hR Hq h hrow hn hB hP
 go_enter Tryz.func16,Tryz.ntmps16
 go_upto_region 2 with fail
 rw[HW1.out];clear HW1 hsc hz hcz;go_wp2_with fail;rw[HW2.out];refine NV.mono ?_
 rintro e w3 ⟨rfl,b3⟩;have aZ:=ah (HS2.below b3);clear b3 NV HW2 HS2;cases hwb with
 |true=>
  have hr:R=([],230):=by
   rw[<-HR.out];cases HP with
   |none=>rfl
   |some ks=>cases hhb
  subst hr;go_wp2
  go_ret2
  exact⟨_,rfl,(fun h=>by cases h),aZ.bel⟩
 |false=>
 obtain⟨ks,rfl⟩: ∃ks,HP=some ks:=by
  cases HP with
  |none=>cases hhb
  |some ks=>exact⟨ks,rfl⟩
 have hr:=HR.out;simp only at hr;cases rows with
 |nil=>have h:=vO.out;cases h
 |cons r0 rest=>
 obtain⟨hks,hwl⟩:=acU vO.out;have hwl:r0.length=4+ks.length:=hwl
 obtain⟨wd,hwd⟩:=aj (4+ks.length);rw[hwd]at hr hwl;have hr0:=jO.out r0 (agl ..)
 have aoN:wd<=16777217:=by rw[<-hwl];exact hr0.1
 have hwd2:4<=wd:=by omega
 have aoO:(4:Int)<=wd:=by omega
 have aoP:(wd:Int)<=16777217:=by omega
 obtain⟨b,off,A0,c0,rfl,hbB,-,hc0,Ye,CJ⟩:=(HRW.out w3 aZ.bel).at (k:=0) rfl
 have oC:=ah (And.intro hks hwl);have BO:(1:Int)<=n:=by have:=HN.out;rw[adQ]at this;omega
 have HE:=ah (show Tb.qI ks wd ids (rest.drop 0) []=R by rw[afA];exact hr)
 have hbw:=adW hbB dh.out;clear hr hks hwl hwd hr0 hc0 Ye CJ HR hhb;go_wp2_with fail
 go_loopg [6,8] (n - 1) (fun q x y wr=> ∃(k:Nat) (acc:List Gr.R) (A2:Option Addr) (c2:Nat),x=.slice A2 acc.length c2/\y=.int .i64 ((k+1:Nat):Int)/\k+1+q=n/\acc.length<=k/\Hid (yT w ids acc (acc.map Gr.R.id) (.slice A2 acc.length c2) wr/\Tb.qI ks wd ids (rest.drop k) acc=R))
 case atStart=>exact⟨0,[],_,0,rfl,rfl,by omega,ac4 _,aZ.out,HE.out⟩
 obtain⟨k,acc,A2,c2,rfl,rfl,hk,hal,hs⟩:=hrel
 have pJ:Hid (yT w ids acc (acc.map Gr.R.id) (.slice A2 acc.length c2) wr/\Tb.qI ks wd ids (rest.drop k) acc=R):=hs
 have HS:=ah pJ.out.1;clear hs aZ HE;cases gk with
 |zero=>
  obtain rfl:n=k+1:=by omega
  have hr:R=(acc,0):=by
   have h:=pJ.out.2;rw[aeJ (by have:=HN.out;rw[adQ]at this;omega)]at h
   exact h.symm
  subst hr;clear pJ hk hal;go_wp2
  go_ret2
  exact⟨_,rfl,(fun _=>HS.own),HS.bel⟩
 |succ q=>
  have hkn:k+1<n:=by omega
  have dH:((k+1:Nat):Int)<n:=by omega
  have pk:(0:Int)<=((k+1:Nat):Int):=by omega
  have tk:(((k+1:Nat):Int)).toNat=k+1:=by omega
  obtain⟨r,hr⟩: ∃r,(r0 :: rest)[k+1]?=some r:=⟨_,dF (by rw[HN.out];exact hkn)⟩
  have hrr:rest[k]?=some r:=hr
  obtain⟨b',off',A3,c3,e3,Yf,hcr,Bo,aoQ,rP⟩:=(HRW.out wr HS.bel).at hr;cases e3
  obtain⟨b',off',A4,c4,e4,Yg,hcr0,-,-,CJ⟩:=(HRW.out wr HS.bel).at (k:=0) rfl;cases e4
  rw[aft,oC.out.2]at hcr0;have hrow:=jO.out r (adI hr);obtain⟨rl,hrl⟩:=aj r.length
  have hp:=pJ.out.2;rw[wV hrr,Tb.qI]at hp;rw[hrl]at hcr rP hp Bo;by_cases lq:rl=wd
  case neg=>
   have hr2:R=([],231):=by rw[<-hp,adk lq]
   subst hr2;have t1:((rl:Int) !=wd)=true:=by rw[adY];omega
   clear hp lq hr hrr hk hal;go_wp2
   go_ret2
   exact⟨_,rfl,(fun h=>by cases h),HS.bel⟩
  obtain rfl:=lq;rw[ade (by simp)]at hp
  have t1:((rl:Int) !=rl)=false:=by simp
  obtain⟨b2,o2,rfl,hb2⟩:=rP.blk (by omega)
  obtain⟨f0,hf0⟩:=aj (r.getD 0 []);obtain⟨q0,m0⟩:=rP.fld (k:=0) (by omega)
  rw[hf0]at q0 m0 hp;have s0:=hrow.2 f0 m0;obtain⟨z0,hz0⟩:=aj (⟨f0.toArray⟩:ByteArray)
  have qY:z0.data.toList=f0:=by rw[<-hz0]
  rw[show ST f0=.string z0 by rw[<-hz0];rfl]at q0
  obtain⟨f1,hf1⟩:=aj (r.getD 1 []);obtain⟨q1,m1⟩:=rP.fld (k:=1) (by omega)
  rw[hf1]at q1 m1 hp;have s1:=hrow.2 f1 m1;obtain⟨z1,hz1⟩:=aj (⟨f1.toArray⟩:ByteArray)
  have qZ:z1.data.toList=f1:=by rw[<-hz1]
  rw[show ST f1=.string z1 by rw[<-hz1];rfl]at q1
  obtain⟨f2,hf2⟩:=aj (r.getD 2 []);obtain⟨q2,m2⟩:=rP.fld (k:=2) (by omega)
  rw[hf2]at q2 m2 hp;have s2:=hrow.2 f2 m2;obtain⟨z2,hz2⟩:=aj (⟨f2.toArray⟩:ByteArray)
  have Gx:z2.data.toList=f2:=by rw[<-hz2]
  rw[show ST f2=.string z2 by rw[<-hz2];rfl]at q2
  obtain⟨f3,hf3⟩:=aj (r.getD 3 []);obtain⟨q3,m3⟩:=rP.fld (k:=3) (by omega)
  rw[hf3]at q3 m3 hp;have s3:=hrow.2 f3 m3;obtain⟨z3,hz3⟩:=aj (⟨f3.toArray⟩:ByteArray)
  have Ee:z3.data.toList=f3:=by rw[<-hz3]
  rw[show ST f3=.string z3 by rw[<-hz3];rfl]at q3
  rw[aft]at q0;have hid:=Qe z0 2048 wr (by rw[Lib.size_eq,qY];omega)
  have hi1:=fun(V:World)=>Qe z1 1024 V (by rw[Lib.size_eq,qZ];omega)
  have hi2:=fun(V:World)=>Qe z2 1024 V (by rw[Lib.size_eq,Gx];omega)
  have hgn:=fun(V:World)=>IK z3 V (by rw[Lib.size_eq,Ee];omega)
  rw[qY]at hid;rw[qZ]at hi1;rw[Gx]at hi2;rw[Ee]at hgn;have tH:=ah hid
  have HI1:=ah hi1;have HI2:=ah hi2;have dQ:=ah hgn
  have HZ3:=ah (show f3=z3.data.toList from Ee.symm)
  have hbw2:=adW hb2 dh.out
  have nI:=ah (fun(V:World) (hb:Below w.heap.size wr V)=>show V.cell? ⟨b2,o2,none⟩=some (.string z0)/\V.cell? ⟨b2,o2+1,none⟩=some (.string z1)/\V.cell? ⟨b2,o2+2,none⟩=some (.string z2)/\V.cell? ⟨b2,o2+3,none⟩=some (.string z3)/\V.cell? ⟨b,off,none⟩=some (.slice A4 rl c4) from
   ⟨(hb.cell (p:=⟨b2,o2,none⟩) hbw2).trans q0,(hb.cell (p:=⟨b2,o2+1,none⟩) hbw2).trans q1,(hb.cell (p:=⟨b2,o2+2,none⟩) hbw2).trans q2,(hb.cell (p:=⟨b2,o2+3,none⟩) hbw2).trans q3,(hb.cell (p:=⟨b,off,none⟩) hbw).trans hcr0⟩)
  have iJ:=ah (fun(V:World) (hb:Below w.heap.size wr V)=>And.intro (CJ.below (hb.mono dh.out)) (rP.below (hb.mono dh.out)))
  have HP:=ah hp;have Bv:=ah hrow;have aO:=ah hrl;have HKK:=ah (And.intro hk hal)
  have HW0:=ah HS.bel.size;have h3l:(3:Int)<rl:=by omega
  have h2l:(2:Int)<rl:=by omega
  have h1l:(1:Int)<rl:=by omega
  clear hp hr hrr hk hal m0 m1 m2 m3 s0 s1 s2 s3 hz0 hz1 hz2 hz3 qY qZ Gx Ee hid hi1 hi2 hgn hf0 hf1 hf2 hf3 hrow hrl Yf Yg CJ rP hb2 q1 q2 q3 pJ
  go_wp2_with fail;refine tH.mono ?_;rintro e w5 ⟨rfl,b5⟩;have bG:=ah (b5.mono HW0.out)
  have dw:=ah (HS.below b5);clear b5 tH q0 hcr hcr0;have hp:=HP.out
  cases hkw:Tb.known 2048 f0 with
  |none=>
   rw[hkw]at hp;have hr2:R=([],62):=hp.symm;subst hr2;rw[apK];clear hp hkw;go_wp2
   go_ret2
   exact⟨_,rfl,(fun h=>by cases h),dw.bel⟩
  |some x=>
  rw[hkw]at hp;simp only at hp;rw[apL];obtain⟨hx0,hx1,hxi⟩:=Dp hkw (by decide)
  obtain⟨i,rfl⟩: ∃i:Nat,x=(i:Int):=⟨x.toNat,by omega⟩
  have hi4:i<2048:=by omega
  have Xx:(i:Int)<2048:=by omega
  have pi:(0:Int)<=(i:Int):=by omega
  have ti:((i:Int)).toNat=i:=by omega
  obtain⟨a0,f0'⟩:=dw.had.cell hi4;obtain⟨be,hbe⟩:=aj (decide ((i:Int)∈acc.map Gr.R.id))
  rw[hbe]at a0;clear hx0 hx1 hxi hkw;cases be with
  |true=>
   have hr2:R=([],7):=by rw[<-hp,adk (adN hbe)]
   subst hr2;clear hp hbe;go_wp2
   go_ret2
   exact⟨_,rfl,(fun h=>by cases h),dw.bel⟩
  |false=>
  rw[ade (adM hbe)]at hp
  obtain⟨W6,iY⟩:=aj (w5.setCell ⟨w.heap.size+1+1,i,none⟩ (.bool true))
  have jI:=ah (show yT w ids acc (acc.map Gr.R.id++[(i:Int)]) (.slice A2 acc.length c2) W6 from iY▸dw.put hi4)
  have hb6:Below w.heap.size wr W6:=iY▸bG.setCell (p:=⟨w.heap.size+1+1,i,none⟩) (show w.heap.size<=w.heap.size+1+1 by omega) _
  have HP2:=ah hp;have dO:=ah hb6;have pI:=ah iY
  obtain⟨s1,hs1⟩:=aj ((Tb.known 1024 f1).getD (-1))
  obtain⟨s2,hs2⟩:=aj ((Tb.known 1024 f2).getD (-1));rw[hs1]at HI1;rw[hs2]at HI2
  have HSS:=ah (And.intro hs1 hs2)
  have HD6:=ah (show Below W6.heap.size W6 (W6.drewN 1) from below_drewN (Below.refl _ _) 1)
  clear hp hbe iY hb6 HP hs1 hs2
  go_upto_region 16 with fail
  rw[pI.out];clear pI a0 f0';obtain⟨-,qa,qb,-,-⟩:=nI.out W6 dO.out
  refine wp_region_held_drew (S:=fun V=>V.cell? ⟨b2,o2+1,none⟩=some (.string z1)/\V.cell? ⟨b2,o2+2,none⟩=some (.string z2)) (by kernel_rfl) ⟨qa,qb⟩ (fun hHeld=> ?_)
  change wpAnyH _ _ _ _ _ 10 (Array.replicate 10 false) _ _
  refine aS 0 hHeld ?_
  (try simp only[Act.put,ac6,adi,adl])
  refine aS 1 hHeld ?_
  (try simp only[Act.put,ac6,adi,adl])
  refine aS 2 hHeld ?_
  (try simp only[Act.put,ac6,adi,adl])
  refine aS 4 hHeld ?_
  (try simp only[Act.put,ac6,adi,adl])
  refine aS 5 hHeld ?_
  (try simp only[Act.put,ac6,adi,adl])
  refine aS 6 hHeld ?_
  (try simp only[Act.put,ac6,adi,adl])
  clear hHeld
  refine wpAnyH_ready (rs:=[3]) (by kernel_rfl) (by simp) (AllReadyH.cons (by simp only[adE,adL,adn];rfl) (fun K hK=> ?_) AllReadyH.nil)
  go_simp
  go_at_call 48
  refine(HI1.out _).mono ?_;rintro e wA ⟨rfl,AY⟩
  have hA:Below W6.heap.size W6 wA:=HD6.trans AY
  obtain⟨-,qaA,qbA,-,-⟩:=nI.out wA (dO.trans (hA.mono (adg HW0.out dO.size)))
  go_wp2_with fail;refine hK.out _ _ (⟨qaA,qbA⟩) (fun hHeld=> ?_)
  clear hK K
  (try simp only[Act.put,ac6,adi,adl])
  clear hHeld
  refine wpAnyH_ready (rs:=[7]) (by kernel_rfl) (by simp) (AllReadyH.cons (by simp only[adE,adL,adn];rfl) (fun K hK=> ?_) AllReadyH.nil)
  go_simp
  go_at_call 48
  refine(HI2.out _).mono ?_;rintro e wB ⟨rfl,D9⟩
  have Jj:Below W6.heap.size W6 wB:=hA.trans (D9.mono hA.size)
  obtain⟨-,qaB,qbB,-,-⟩:=nI.out wB (dO.trans (Jj.mono (adg HW0.out dO.size)))
  go_wp2_with fail;refine hK.out _ _ (⟨qaB,qbB⟩) (fun hHeld=> ?_)
  clear hK K
  (try simp only[Act.put,ac6,adi,adl])
  refine aS 8 hHeld ?_
  (try simp only[Act.put,ac6,adi,adl])
  refine aS 9 hHeld ?_
  (try simp only[Act.put,ac6,adi,adl])
  clear hHeld;refine wpAnyH_done (by kernel_rfl) ?_ _
  have aK:=ah Jj;have pG:=ah (jI.below aK.out)
  have bD:=ah (dO.trans (aK.mono (adg HW0.out dO.size)))
  clear Jj D9 AY hA qaA qbA qaB qbB qa qb HI1 HI2;have hp:=HP2.out
  have hbad:Tb.endP ids f1=none\/Tb.endP ids f2=none->R=([],65):=fun h=>by
   rw[<-hp]
   rcases h with h|h
   ·rw[h]
   rw[h];cases Tb.endP ids f1<;>rfl
  have hs1:=HSS.out.1;have hs2:=HSS.out.2;cases hk1:Tb.known 1024 f1 with
  |none=>
   have hr2:=hbad (.inl (P6 hk1));subst hr2;rw[hk1,apK]at hs1;subst hs1
   clear hp hbad hs2 hk1;go_wp2
   go_ret2
   exact⟨_,rfl,(fun h=>by cases h),pG.bel⟩
  |some x1=>
  rw[hk1,apL]at hs1;subst hs1;obtain⟨hx0,hx1,-⟩:=Dp hk1 (by decide)
  obtain⟨i1,rfl⟩: ∃i:Nat,x1=(i:Int):=⟨x1.toNat,by omega⟩
  have l1:i1<1024:=by omega
  have l1I:(i1:Int)<1024:=by omega
  have p1:(0:Int)<=(i1:Int):=by omega
  have u1:((i1:Int)).toNat=i1:=by omega
  cases hk2:Tb.known 1024 f2 with
  |none=>
   have hr2:=hbad (.inr (P6 hk2));subst hr2;rw[hk2,apK]at hs2;subst hs2
   clear hp hbad hk1 hk2 hx0 hx1;go_wp2
   go_ret2
   exact⟨_,rfl,(fun h=>by cases h),pG.bel⟩
  |some x2=>
  rw[hk2,apL]at hs2;subst hs2;obtain⟨hy0,hy1,-⟩:=Dp hk2 (by decide)
  obtain⟨i2,rfl⟩: ∃i:Nat,x2=(i:Int):=⟨x2.toNat,by omega⟩
  have l2:i2<1024:=by omega
  have l2I:(i2:Int)<1024:=by omega
  have p2:(0:Int)<=(i2:Int):=by omega
  have u2:((i2:Int)).toNat=i2:=by omega
  have t1':=(pG.arr.cell l1).1;have t2':=(pG.arr.cell l2).1;clear hx0 hx1 hy0 hy1
  by_cases m1:(i1:Int)∈ids
  case neg=>
   have hr2:=hbad (.inl (by unfold Tb.endP;rw[hk1];exact ade m1))
   subst hr2;rw[ac5 m1]at t1';clear hp hbad hk1 hk2 m1 t2';go_wp2
   go_ret2
   exact⟨_,rfl,(fun h=>by cases h),pG.bel⟩
  rw[adb m1]at t1';by_cases m2:(i2:Int)∈ids
  case neg=>
   have hr2:=hbad (.inr (by unfold Tb.endP;rw[hk2];exact ade m2))
   subst hr2;rw[ac5 m2]at t2';clear hp hbad hk1 hk2 m1 m2;go_wp2
   go_ret2
   exact⟨_,rfl,(fun h=>by cases h),pG.bel⟩
  rw[adb m2]at t2'
  rw[show Tb.endP ids f1=some (i1:Int) by unfold Tb.endP;rw[hk1];exact adk m1,show Tb.endP ids f2=some (i2:Int) by unfold Tb.endP;rw[hk2];exact adk m2]at hp
  simp only at hp;obtain⟨gn,hgn⟩:=aj (Gr.bC f3);rw[hgn]at hp dQ
  obtain⟨-,-,-,q3,-⟩:=nI.out wB bD.out;have uO:=ah hp;clear hp hbad hk1 hk2 m1 m2 hgn
  go_wp2_with fail;refine(dQ.out _).mono ?_;rintro e w8 ⟨rfl,b8⟩
  have mg:=ah (bD.trans (b8.mono (adg HW0.out bD.size)));have wK:=ah (pG.below b8)
  clear b8 q3 t1' t2' dQ;have hp:=uO.out;cases gn with
  |false=>
   have hr2:R=([],60):=by rw[<-hp,adk rfl]
   subst hr2;clear hp;go_wp2
   go_ret2
   exact⟨_,rfl,(fun h=>by cases h),wK.bel⟩
  |true=>
  rw[ade (by decide)]at hp
  obtain⟨Q,hQ⟩:=aj (Tb.bM ks (r.drop 4));obtain⟨ps,ep⟩:=Q;rw[hQ]at hp
  obtain⟨g0,g3⟩:=iJ.out w8 mg.out;rw[oC.out.2]at g0
  have hpr:=acR B A4 (some ⟨b2,o2,none⟩) c4 c3 rl 4 r0 r w8 g0 g3 (by omega) hwd2 (fun f hf=>Bv.out.2 f hf) (adg dh.out (adg HW0.out mg.size))
  rw[show r0.drop 4=ks from oC.out.1,hQ]at hpr
  have cZ:=ah hpr;have NW:=ah hp;obtain⟨-,-,-,-,q5⟩:=nI.out w8 mg.out
  clear hp hQ hpr g0 g3 uO;go_wp2_with fail;refine cZ.mono ?_;rintro e w9 ⟨vp,rfl,op,b9⟩
  have bg:=ah (mg.trans (b9.mono (adg HW0.out mg.size)));have fC:=ah (wK.below b9)
  clear b9 q5 cZ;by_cases nJ:ep=0
  case neg=>
   have t3:((ep:Int) !=0)=true:=by rw[adY];omega
   have hr2:R=([],ep):=by rw[<-NW.out,adk nJ]
   subst hr2;clear op;go_wp2
   go_ret2
   exact⟨_,rfl,(fun h=>absurd h nJ),fC.bel⟩
  subst nJ;have hp:=NW.out;rw[ade (by simp)]at hp
  have hop:=op rfl;obtain⟨Ap,cp,rfl⟩:=hop.form
  have hno:jy w9 w.heap.size (⟨(i:Int),f3,(i1:Int),(i2:Int),ps⟩,[.int .i64 i,.string z3,.int .i64 i1,.int .i64 i2,.slice Ap ps.length cp]):=
   ⟨_,by rw[HZ3.out];rfl,hop.base (adg HS.bel.size mg.size)⟩
  obtain⟨ln,h1,h2,h3⟩:=fC.own
  have jo:=ah (fun(v':Value) (w':World) (hg:w9.grownBy w' (Value.ownBlock (.slice A2 acc.length c2))) (ho:w'.ownsRow w.heap.size 44 5 v' (acc.length+1) (ln.flatMap Prod.snd++[.int .i64 i,.string z3,.int .i64 i1,.int .i64 i2,.slice Ap ps.length cp]))=>gu.put h1 h2 h3 hno fC.bel.size hg ho)
  have H3:=ah h3;have hal:=HKK.out.2;have x9:acc.length<536870912:=by omega
  have hszW:=fC.bel.size;obtain⟨-,-,-,q6,-⟩:=nI.out w9 bg.out;have HP5:=ah hp
  clear hp hop op hno h1 h2 h3 NW hal
  go_wp2_with (at_builtin;refine JF rfl (.tmp 96) (.tmp 105) 24 44 (.agg #[.int .i64 0,.string ⟨#[]⟩,.int .i64 0,.int .i64 0,.slice none 0 0]) 5 64 Tryz.underlying24 Uh rfl (by decide) (by decide) rfl w.heap.size (.slice A2 acc.length c2) acc.length (ln.flatMap Prod.snd) w9 rfl H3.out [.int .i64 i,.string z3,.int .i64 i1,.int .i64 i2,.slice Ap ps.length cp] _ rfl rfl (by simp[Value.oneCell']) rfl x9 hszW ?_)
  intro v12 w12 jT ig yu rC;obtain⟨yw,c12,rfl⟩:=aF jT;obtain⟨cs0,hbx,hbz⟩:=fC.arr
  obtain⟨fA,hT,bK⟩:=fC.had
  have hne: ∀{T:TypeId} {g:Nat} {cs:Array Value},T≠44->au w9 g T cs->some g≠(Value.slice A2 acc.length c2).ownBlock:=fun hT hb e=>by
   obtain⟨-,c',hc'⟩:=tY H3.out _ e.symm;rw[hb]at hc';cases hc';exact hT rfl
  have rD:=ah (show yT w ids (acc++[⟨(i:Int),f3,(i1:Int),(i2:Int),ps⟩]) ((acc++[(⟨(i:Int),f3,(i1:Int),(i2:Int),ps⟩:Gr.R)]).map Gr.R.id) (.slice yw (acc.length+1) c12) w12 from
   ⟨⟨cs0,hbx.grown ig (hne (by decide) hbx),hbz⟩,(show yS w12 (w.heap.size+1+1) ((acc++[(⟨(i:Int),f3,(i1:Int),(i2:Int),ps⟩:Gr.R)]).map Gr.R.id) by rw[ad8];exact⟨fA,hT.grown ig (hne (by decide) hT),bK⟩),jo.out _ _ ig jT,fC.bel.trans rC⟩)
  have HLEN:=ah (show(acc++[(⟨(i:Int),f3,(i1:Int),(i2:Int),ps⟩:Gr.R)]).length=acc.length+1 by rw[adf];rfl)
  clear jT ig yu rC hbx hT hne;go_wp2
  go_roundg q
  case measure=>omega
  exact⟨k+1,acc++[⟨(i:Int),f3,(i1:Int),(i2:Int),ps⟩],yw,c12,by rw[HLEN.out],int_eq (by omega),by have:=HKK.out.1;omega,by rw[HLEN.out];have:=HKK.out.2;omega,by rw[HLEN.out];exact⟨rD.out,HP5.out⟩⟩
end Go.Proofs.YtkdakckjafomhaaGreatDoor
namespace Go.Proofs.YtkdakckjafomhaaGreatDoor.Ord
open Go
variable {α:Type} {le:α->α->Bool}
def pass (le:α->α->Bool) (w:Nat) (l:List α):List α:=
 if h:l=[]\/w=0 then l else List.merge (l.take w) ((l.drop w).take w) le++pass le w (l.drop (2*w))
termination_by l.length
decreasing_by
 have h1:=aeX.2 (fun e=>h (.inl e))
 have h2:w≠0:=fun e=>h (.inr e)
 rw[aej];omega
theorem Qh (w:Nat):pass le w []=[]:=by rw[pass];simp
theorem Vg {w:Nat} {l:List α} (h:l≠ []) (hw:w≠0):pass le w l=List.merge (l.take w) ((l.drop w).take w) le++pass le w (l.drop (2*w)):=by
 rw[pass,dif_neg (by simp[h,hw])]
theorem aml (l r:List α):(List.merge l r le).length=l.length+r.length:=by simp[List.length_merge]
theorem amm {w:Nat} (hw:w≠0): ∀(n:Nat) (l:List α),l.length=n->(pass le w l).Perm l:=by
 intro n
 induction n using Nat.strongRecOn with
 |ind n ih=>
  intro l hl;by_cases h:l=[]
  ·subst h;rw[Qh]
  rw[Vg h hw];have h1:=aeX.2 h
  have h2:=ih (l.drop (2*w)).length (by rw[aej];omega) _ rfl
  have h3:(List.merge (l.take w) ((l.drop w).take w) le).Perm (l.take w ++(l.drop w).take w):=List.merge_perm_append le
  have h4:l.take w ++(l.drop w).take w++l.drop (2*w)=l:=by
   rw[show l.drop (2*w)=(l.drop w).drop w by rw[am3];congr 1;omega,aeG,aeN,aeN]
  have h5:=h3.append h2
  rwa [h4]at h5
def Ch (le:α->α->Bool) (w:Nat) (l:List α):Prop:= ∀k,((l.drop (k*w)).take w).Pairwise (fun a b=>le a b=true)
theorem amn (l:List α):Ch le 1 l:=fun k=>by
 match hl:(l.drop (k*1)).take 1 with
 |[]=>exact List.Pairwise.nil
 |[a]=>exact List.pairwise_singleton _ _
 |a :: b :: r=>
  have:=aeH List.length hl;rw[aeb]at this;simp at this;omega
theorem amo {w:Nat} {l:List α} (h:Ch le w l) (hw:l.length<=w):l.Pairwise (fun a b=>le a b=true):=by
 have:=h 0
 rwa [anv,afA,ado hw]at this
theorem amq {w:Nat} (hw:w≠0) (tr: ∀a b c,le a b=true->le b c=true->le a c=true) (tot: ∀a b,(le a b || le b a)=true): ∀(n:Nat) (l:List α),l.length=n->Ch le w l->Ch le (2*w) (pass le w l):=by
 intro n
 induction n using Nat.strongRecOn with
 |ind n ih=>
  intro l hl hc;by_cases h:l=[]
  ·subst h
   rw[Qh];intro k;simp
  rw[Vg h hw];have h1:=aeX.2 h
  obtain⟨M,hM⟩:=aj (List.merge (l.take w) ((l.drop w).take w) le)
  have hs:M.Pairwise (fun a b=>le a b=true):=by
   rw[<-hM];have a0:=hc 0;have a1:=hc 1;rw[anv,afA]at a0;rw[aqQ]at a1
   exact List.pairwise_merge tr tot _ _ a0 a1
  have hml:M.length=min (2*w) l.length:=by
   rw[<-hM,aml,aeb,aeb,aej];omega
  have hR:Ch le (2*w) (pass le w (l.drop (2*w))):=by
   refine ih (l.drop (2*w)).length (by rw[aej];omega) _ rfl fun k=> ?_
   have:=hc (k+2)
   rwa [am3,show 2*w+k*w=(k+2)*w by rw[apY];omega]
  rw[hM]
  rcases am5 l.length (2*w) with hlt|hge
  ·have e:l.drop (2*w)=[]:=amY (by omega)
   rw[e,Qh,aey];intro k;exact(hs.sublist (apj _ _)).sublist (aq6 _ _)
  have hm2:M.length=2*w:=by omega
  intro k;cases k with
  |zero=>rw[anv,afA,ap6 (by omega),ado (by omega)];exact hs
  |succ k=>
   have:=hR k
   rw[arh,amY (by rw[hm2,apY k 1];omega),aex,hm2,show(k+1)*(2*w) - 2*w=k*(2*w) by rw[apY k 1];omega]
   exact this
theorem amr {a b:α} {l r:List α} (h:le a b=true):List.merge (a :: l) (b :: r) le=a :: List.merge l (b :: r) le:=by rw[List.cons_merge_cons,adk h]
theorem merge_right {a b:α} {l r:List α} (h:le a b=false):List.merge (a :: l) (b :: r) le=b :: List.merge (a :: l) r le:=by rw[List.cons_merge_cons,ade (by rw[h];decide)]
end Go.Proofs.YtkdakckjafomhaaGreatDoor.Ord
