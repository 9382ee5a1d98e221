/- Contracts and plain laws,part 41. -/
import Derived.Test.YtkdakckjafomhaaGreatDoorUW40
set_option maxHeartbeats 64000000
set_option maxRecDepth 1000000
set_option linter.all false
namespace Go.Proofs.YtkdakckjafomhaaGreatDoor
open Go.RowKit
def amf (R:List Gr.N×Nat) (w:World) (e:Ending) (w':World):Prop:=
 ∃v cs ids,e=.returned (.tuple #[v,.agg cs,.int .i64 (R.2:Nat)])/\Kq cs ids/\(R.2=0->eU w' w.heap.size v R.1/\ids=R.1.map Gr.N.id)/\Below w.heap.size w w'
structure yR (w:World) (acc:List Gr.N) (ids:List Int) (v:Value) (V:World):Prop where
 box: ∃cs0,au V w.heap.size 59 cs0/\cs0.size=1024
 arr:There V (w.heap.size+1+1) ids
 own:eU V w.heap.size v acc
 bel:Below w.heap.size w V
theorem eU.row {W:World} {B g:Nat} {v:Value} {ns:List Gr.N} {cs old:Array Value} (h:eU W B v ns) (hb:au W g 59 old):eU (W.setRow g cs) B v ns:=by
 have hty: ∀{e:TypeId},59≠e-> ∀g' c t fz,some g=some g'->W.heap[g']?=some (.cells c t fz)->t≠e:=fun he g' c t fz hr hc=>by
  cases hr;rw[hb]at hc;cases hc;exact he
 have hg:=amd W g cs;obtain⟨l,h1,h2,h3⟩:=h
 refine⟨l,h1,fun x hx=> ?_,aW h3 hg (hty (by decide))⟩
 obtain⟨s,t,e,o1,l2,e2,o3,o4⟩:=h2 x hx
 refine⟨s,t,e,aW o1 hg (hty (by decide)),l2,e2,fun y hy=> ?_,aW o4 hg (hty (by decide))⟩
 obtain⟨a,b,e3,q1,q2⟩:=o3 y hy
 exact⟨a,b,e3,aW q1 hg (hty (by decide)),aW q2 hg (hty (by decide))⟩
theorem yR.below {w V V':World} {acc:List Gr.N} {ids:List Int} {v:Value} (h:yR w acc ids v V) (hb:Below V.heap.size V V'):yR w acc ids v V':=by
 obtain⟨cs0,h1,h2⟩:=h.box
 exact⟨⟨cs0,h1.below hb h1.lt,h2⟩,h.arr.below hb,h.own.k0 (base:=0) ⟨⟨hb.os,hb.tape,hb.output,hb.size,fun i hi=>absurd hi (arv _)⟩,fun b c t fz hc _=>(hb.block b (adZ.1 hc).1).trans hc⟩,h.bel.trans (hb.mono h.bel.size)⟩
theorem yR.put {w V:World} {acc:List Gr.N} {ids:List Int} {v:Value} (h:yR w acc ids v V) {i:Nat} (hi:i<1024):yR w acc (ids++[(i:Int)]) v (V.setCell ⟨w.heap.size+1+1,i,none⟩ (.bool true)):=by
 obtain⟨cs0,h1,h2⟩:=h.box;obtain⟨cs,h3,-,-⟩:=h.arr
 exact⟨⟨cs0,h1.far (by simp;omega) _,h2⟩,h.arr.put hi,h.own.kt (Kt.cell (base:=0) h3 (afP _) i _) (by decide) (by decide) (by decide) (by decide),h.bel.setCell (p:=⟨w.heap.size+1+1,i,none⟩) (show w.heap.size<=w.heap.size+1+1 by omega) _⟩
theorem acU {want h ks:List (List UInt8)} {r:List (List (List UInt8))} (e:Tb.dK want (h :: r)=some ks):h.drop want.length=ks/\h.length=want.length+ks.length:=by
 rw[Tb.dK]at e
 by_cases hc:h.take want.length=want/\(h.drop want.length).all Gr.bC=true/\(h.drop want.length).Nodup
 ·rw[adk hc]at e
  have e1:=ad4 e;refine⟨e1, ?_⟩;have h2:=aeH List.length hc.1;rw[aeb]at h2
  have h3:=aeH List.length e1;rw[aej]at h3;omega
 rw[ade hc]at e;cases e
theorem amg (B:Nat) (A:Option Addr) (n c:Nat) (rows:List (List (List UInt8))) (w:World) (h:kY w B (.slice A n c) rows) (hn:rows.length=n) (hnb:n<=16777217) (hrow: ∀r∈rows,Tb.Row r) (hB:B<=w.heap.size):
  Calls Tryz.prog 15 #[.slice A n c] w (amf (Tb.nodesOf rows) w):=by
 obtain⟨R,hR⟩:=aj (Tb.nodesOf rows);rw[hR];unfold Tb.nodesOf at hR
 obtain⟨cs,hcz,hz,hsc,hst⟩:=Vd
 have hsc:=hsc ((w.alloc (.cells cs 59)).alloc (.cells #[] 42))
 have hst:=hst ((w.alloc (.cells cs 59)).alloc (.cells #[] 42))
 rw[World.size_alloc,World.size_alloc]at hsc hst
 obtain⟨W1,hW1⟩:=aj (((w.alloc (.cells cs 59)).alloc (.cells #[] 42)).alloc (.cells cs 59))
 have hb1:Below w.heap.size w W1:=hW1▸(((Below.refl _ w).alloc (ac4 _) _).alloc (by simp) _).alloc (by simp;omega) _
 rw[hW1]at hst
 have hS1:yR w [] [] (.slice (some ⟨w.heap.size+1,0,none⟩) 0 0) W1:=⟨⟨cs,hW1▸((au.new w _ _).alloc _).alloc _,hcz⟩,hst,⟨[],rfl,(fun x h=>by cases h),by
  have h1:=JG (w.alloc (.cells cs 59)) w.heap.size 42 3 (by simp)
  rw[World.size_alloc]at h1;rw[<-hW1]
  exact World.ownsRow.alloc h1 _⟩,hb1⟩
 obtain⟨W2,hW2⟩:=aj (W1.alloc (.cells #[.string ⟨#[58,73,68]⟩,.string ⟨#[58,76,65,66,69,76]⟩] 9))
 have hb2:Below W1.heap.size W1 W2:=hW2▸(Below.refl _ W1).alloc (ac4 _) _
 have hk2:au W2 W1.heap.size 9 #[.string ⟨#[58,73,68]⟩,.string ⟨#[58,76,65,66,69,76]⟩]:=hW2▸au.new _ _ _
 have hwr:Reads W2 W2.heap.size 1 (some ⟨W1.heap.size,0,none⟩) 2 (Tb.iQ.map ST):=⟨rfl,fun _=>⟨_,0,rfl,hk2.lt,fun j u hu=>by rw[afW,hk2.cell j,show(#[.string ⟨#[58,73,68]⟩,.string ⟨#[58,76,65,66,69,76]⟩]:Array Value)=(Tb.iQ.map ST).toArray from rfl,adE];exact hu⟩⟩
 have CG:=acS B A (some ⟨W1.heap.size,0,none⟩) n c 2 2 rows Tb.iQ W2 (h.below ((hb1.trans (hb2.mono hb1.size)).mono hB)) hn (by omega) hwr (by decide) (by decide) hrow (adg hB (adg hb1.size hb2.size))
 obtain⟨HP,Hq⟩:=aj (Tb.dK Tb.iQ rows);rw[Hq]at CG hR;obtain⟨hwb,hhb⟩:=aj HP.isNone
 rw[hhb]at CG;have NV:=ah CG;have HW1:=ah hW1;have HW2:=ah hW2
 have HS2:=ah (hS1.below hb2);have HR:=ah hR;have vO:=ah Hq
 have HRW:=ah (fun(V:World) (hb:Below w.heap.size w V)=>h.below (hb.mono hB))
 have jO:=ah hrow;have HN:=ah hn;have dh:=ah hB
 clear CG hW1 hW2 hst hS1 hb1 hb2 hk2 hwr hR Hq h hrow hn hB
 go_enter Tryz.func15,Tryz.ntmps15
 go_upto_region 2 with fail
 rw[HW1.out];clear HW1 hsc hz hcz;go_wp2_with fail;rw[HW2.out];refine NV.mono ?_
 rintro e w3 ⟨rfl,b3⟩;have aZ:=ah (HS2.below b3);clear b3 NV HW2 HS2;cases hwb with
 |true=>
  have hr:R=([],230):=by
   rw[<-HR.out];cases HP with
   |none=>rfl
   |some ks=>cases hhb
  subst hr;go_wp2_with fail;obtain⟨fA,hT,bK⟩:=aZ.arr.arr;obtain⟨cs0,hbx,hbz⟩:=aZ.box
  go_still_tail 3,(by kernel_rfl)
  refine wpStill_step (fun K hK=> ?_)
  rw[adk (by rfl)]
  refine Ko 59 (.tmp 6) rfl _ rfl 59 fA (0,0) _ hT Tryz.underlying59 rfl (oO bK.1) (hK _ ?_)
  clear hK K
  repeat still_step
  refine wpStill_nil ?_
  change wpList _ _ _ _ _ w3.drew
  refine wpList_store_row rfl 59 (.tmp 3) (.tmp 19) rfl _ fA rfl rfl 59 cs0 hbx (oO bK.1) (hbz.trans bK.1.symm) bK.one ?_
  go_wp2_with fail
  exact Fh Tryz.results15 rfl rfl rfl (au.setRow (w:=w3.drew) hbx) bK.1 ⟨_,fA,_,rfl,bK,(fun h=>by cases h),below_setRow aZ.bel.drew (ac4 _) _⟩
 |false=>
 obtain⟨ks,rfl⟩: ∃ks,HP=some ks:=by
  cases HP with
  |none=>cases hhb
  |some ks=>exact⟨ks,rfl⟩
 have hr:=HR.out;simp only at hr;cases rows with
 |nil=>have h:=vO.out;cases h
 |cons r0 rest=>
 obtain⟨hks,hwl⟩:=acU vO.out;have hwl:r0.length=2+ks.length:=hwl
 obtain⟨wd,hwd⟩:=aj (2+ks.length);rw[hwd]at hr hwl;have hr0:=jO.out r0 (agl ..)
 have aoN:wd<=16777217:=by rw[<-hwl];exact hr0.1
 have hwd2:2<=wd:=by omega
 have aoO:(2:Int)<=wd:=by omega
 have aoP:(wd:Int)<=16777217:=by omega
 obtain⟨b,off,A0,c0,rfl,hbB,-,hc0,Ye,CJ⟩:=(HRW.out w3 aZ.bel).at (k:=0) rfl
 have oC:=ah (And.intro hks hwl);have BO:(1:Int)<=n:=by have:=HN.out;rw[adQ]at this;omega
 have HE:=ah (show Tb.nT ks wd (rest.drop 0) []=R by rw[afA];exact hr)
 have hbw:=adW hbB dh.out;clear hr hks hwl hwd hr0 hc0 Ye CJ HR hhb;go_wp2_with fail
 go_loopg [5,7] (n - 1) (fun q x y wr=> ∃(k:Nat) (acc:List Gr.N) (A2:Option Addr) (c2:Nat),x=.slice A2 acc.length c2/\y=.int .i64 ((k+1:Nat):Int)/\k+1+q=n/\acc.length<=k/\Hid (yR w acc (acc.map Gr.N.id) (.slice A2 acc.length c2) wr/\Tb.nT ks wd (rest.drop k) acc=R))
 case atStart=>exact⟨0,[],_,0,rfl,rfl,by omega,ac4 _,aZ.out,HE.out⟩
 obtain⟨k,acc,A2,c2,rfl,rfl,hk,hal,hs⟩:=hrel
 have pJ:Hid (yR w acc (acc.map Gr.N.id) (.slice A2 acc.length c2) wr/\Tb.nT ks wd (rest.drop k) acc=R):=hs
 have HS:=ah pJ.out.1;clear hs aZ HE;cases gk with
 |zero=>
  obtain rfl:n=k+1:=by omega
  have hr:R=(acc,0):=by
   have h:=pJ.out.2;rw[aeJ (by have:=HN.out;rw[adQ]at this;omega)]at h
   exact h.symm
  subst hr;go_wp2_with fail;obtain⟨fA,hT,bK⟩:=HS.arr.arr;obtain⟨cs0,hbx,hbz⟩:=HS.box
  go_still_tail 3,(by kernel_rfl)
  refine wpStill_step (fun K hK=> ?_)
  rw[adk (by rfl)]
  refine Ko 59 (.tmp 6) rfl _ rfl 59 fA (0,0) _ hT Tryz.underlying59 rfl (oO bK.1) (hK _ ?_)
  clear hK K
  repeat still_step
  refine wpStill_nil ?_
  change wpList _ _ _ _ _ wr.drew
  refine wpList_store_row rfl 59 (.tmp 3) (.tmp 87) rfl _ fA rfl rfl 59 cs0 hbx (oO bK.1) (hbz.trans bK.1.symm) bK.one ?_
  go_wp2_with fail
  exact Fh Tryz.results15 rfl rfl rfl (au.setRow (w:=wr.drew) hbx) bK.1 ⟨_,fA,_,rfl,bK,(fun _=>⟨eU.row (W:=wr.drew) HS.own hbx,rfl⟩),below_setRow HS.bel.drew (ac4 _) _⟩
 |succ q=>
  have hkn:k+1<n:=by omega
  have dH:((k+1:Nat):Int)<n:=by omega
  have pk:(0:Int)<=((k+1:Nat):Int):=by omega
  have tk:(((k+1:Nat):Int)).toNat=k+1:=by omega
  obtain⟨r,hr⟩: ∃r,(r0 :: rest)[k+1]?=some r:=⟨_,dF (by rw[HN.out];exact hkn)⟩
  have hrr:rest[k]?=some r:=hr
  obtain⟨b',off',A3,c3,e3,Yf,hcr,Bo,aoQ,rP⟩:=(HRW.out wr HS.bel).at hr;cases e3
  obtain⟨b',off',A4,c4,e4,Yg,hcr0,-,-,CJ⟩:=(HRW.out wr HS.bel).at (k:=0) rfl;cases e4
  rw[aft,oC.out.2]at hcr0;have hrow:=jO.out r (adI hr);obtain⟨rl,hrl⟩:=aj r.length
  have hp:=pJ.out.2;rw[wV hrr,Tb.nT]at hp;rw[hrl]at hcr rP hp Bo;by_cases lq:rl=wd
  case neg=>
   have hr2:R=([],231):=by rw[<-hp,adk lq]
   subst hr2;have t1:((rl:Int) !=wd)=true:=by rw[adY];omega
   clear hp lq hr hrr hk hal;go_wp2_with fail;obtain⟨fA,hT,bK⟩:=HS.arr.arr
   obtain⟨cs0,hbx,hbz⟩:=HS.box
   go_still_tail 3,(by kernel_rfl)
   refine wpStill_step (fun K hK=> ?_)
   rw[adk (by rfl)]
   refine Ko 59 (.tmp 6) rfl _ rfl 59 fA (0,0) _ hT Tryz.underlying59 rfl (oO bK.1) (hK _ ?_)
   clear hK K
   repeat still_step
   refine wpStill_nil ?_
   change wpList _ _ _ _ _ wr.drew
   refine wpList_store_row rfl 59 (.tmp 3) (.tmp 38) rfl _ fA rfl rfl 59 cs0 hbx (oO bK.1) (hbz.trans bK.1.symm) bK.one ?_
   go_wp2_with fail
   exact Fh Tryz.results15 rfl rfl rfl (au.setRow (w:=wr.drew) hbx) bK.1 ⟨_,fA,_,rfl,bK,(fun h=>by cases h),below_setRow HS.bel.drew (ac4 _) _⟩
  obtain rfl:=lq;rw[ade (by simp)]at hp
  have t1:((rl:Int) !=rl)=false:=by simp
  obtain⟨b2,o2,rfl,hb2⟩:=rP.blk (by omega)
  obtain⟨f0,hf0⟩:=aj (r.getD 0 []);obtain⟨f1,hf1⟩:=aj (r.getD 1 [])
  obtain⟨q0,m0⟩:=rP.fld (k:=0) (by omega)
  obtain⟨q1,m1⟩:=rP.fld (k:=1) (by omega)
  rw[hf0]at q0 m0 hp;rw[hf1]at q1 m1 hp;have s0:=hrow.2 f0 m0;have s1:=hrow.2 f1 m1
  obtain⟨z0,hz0⟩:=aj (⟨f0.toArray⟩:ByteArray)
  obtain⟨z1,hz1⟩:=aj (⟨f1.toArray⟩:ByteArray);have qY:z0.data.toList=f0:=by rw[<-hz0]
  have qZ:z1.data.toList=f1:=by rw[<-hz1]
  rw[show ST f0=.string z0 by rw[<-hz0];rfl,aft]at q0
  rw[show ST f1=.string z1 by rw[<-hz1];rfl]at q1
  have hid:=Qe z0 1024 wr (by rw[Lib.size_eq,qY];omega)
  rw[qY]at hid;have hlb:=fun(V:World)=>alC z1 V (by rw[Lib.size_eq,qZ];omega)
  rw[qZ]at hlb;have tH:=ah hid;have qB:=ah hlb;have hbw2:=adW hb2 dh.out
  have nI:=ah (fun(V:World) (hb:Below w.heap.size wr V)=>show V.cell? ⟨b2,o2,none⟩=some (.string z0)/\V.cell? ⟨b2,o2+1,none⟩=some (.string z1)/\V.cell? ⟨b,off,none⟩=some (.slice A4 rl c4) from
   ⟨(hb.cell (p:=⟨b2,o2,none⟩) hbw2).trans q0,(hb.cell (p:=⟨b2,o2+1,none⟩) hbw2).trans q1,(hb.cell (p:=⟨b,off,none⟩) hbw).trans hcr0⟩)
  have iJ:=ah (fun(V:World) (hb:Below w.heap.size wr V)=>And.intro (CJ.below (hb.mono dh.out)) (rP.below (hb.mono dh.out)))
  have HP:=ah hp;have Bv:=ah hrow;have aO:=ah hrl;have HKK:=ah (And.intro hk hal)
  have HW0:=ah HS.bel.size;have h1l:(1:Int)<rl:=by omega
  clear hp hr hrr hk hal m0 m1 s0 s1 hz0 hz1 qY qZ hid hlb hf0 hf1 hrow hrl Yf Yg CJ rP hb2 q1 pJ
  go_wp2_with fail;refine tH.mono ?_;rintro e w5 ⟨rfl,b5⟩;have bG:=ah (b5.mono HW0.out)
  have dw:=ah (HS.below b5);clear b5 tH q0 hcr hcr0;have hp:=HP.out
  cases hkw:Tb.known 1024 f0 with
  |none=>
   rw[hkw]at hp;have hr2:R=([],61):=hp.symm;subst hr2;rw[apK];clear hp hkw
   go_wp2_with fail;obtain⟨fA,hT,bK⟩:=dw.arr.arr;obtain⟨cs0,hbx,hbz⟩:=dw.box
   go_still_tail 3,(by kernel_rfl)
   refine wpStill_step (fun K hK=> ?_)
   rw[adk (by rfl)]
   refine Ko 59 (.tmp 6) rfl _ rfl 59 fA (0,0) _ hT Tryz.underlying59 rfl (oO bK.1) (hK _ ?_)
   clear hK K
   repeat still_step
   refine wpStill_nil ?_
   change wpList _ _ _ _ _ w5.drew
   refine wpList_store_row rfl 59 (.tmp 3) (.tmp 46) rfl _ fA rfl rfl 59 cs0 hbx (oO bK.1) (hbz.trans bK.1.symm) bK.one ?_
   go_wp2_with fail
   exact Fh Tryz.results15 rfl rfl rfl (au.setRow (w:=w5.drew) hbx) bK.1 ⟨_,fA,_,rfl,bK,(fun h=>by cases h),below_setRow dw.bel.drew (ac4 _) _⟩
  |some x=>
  rw[hkw]at hp;simp only at hp;rw[apL];obtain⟨hx0,hx1,hxi⟩:=Dp hkw (by decide)
  obtain⟨i,rfl⟩: ∃i:Nat,x=(i:Int):=⟨x.toNat,by omega⟩
  have hi4:i<1024:=by omega
  have Xx:(i:Int)<1024:=by omega
  have pi:(0:Int)<=(i:Int):=by omega
  have ti:((i:Int)).toNat=i:=by omega
  obtain⟨a0,f0'⟩:=dw.arr.cell hi4;obtain⟨be,hbe⟩:=aj (decide ((i:Int)∈acc.map Gr.N.id))
  rw[hbe]at a0;clear hx0 hx1 hxi hkw;cases be with
  |true=>
   have hr2:R=([],7):=by rw[<-hp,adk (adN hbe)]
   subst hr2;clear hp hbe;go_wp2_with fail;obtain⟨fA,hT,bK⟩:=dw.arr.arr
   obtain⟨cs0,hbx,hbz⟩:=dw.box
   go_still_tail 3,(by kernel_rfl)
   refine wpStill_step (fun K hK=> ?_)
   rw[adk (by rfl)]
   refine Ko 59 (.tmp 6) rfl _ rfl 59 fA (0,0) _ hT Tryz.underlying59 rfl (oO bK.1) (hK _ ?_)
   clear hK K
   repeat still_step
   refine wpStill_nil ?_
   change wpList _ _ _ _ _ w5.drew
   refine wpList_store_row rfl 59 (.tmp 3) (.tmp 51) rfl _ fA rfl rfl 59 cs0 hbx (oO bK.1) (hbz.trans bK.1.symm) bK.one ?_
   go_wp2_with fail
   exact Fh Tryz.results15 rfl rfl rfl (au.setRow (w:=w5.drew) hbx) bK.1 ⟨_,fA,_,rfl,bK,(fun h=>by cases h),below_setRow dw.bel.drew (ac4 _) _⟩
  |false=>
  rw[ade (adM hbe)]at hp
  obtain⟨W6,iY⟩:=aj (w5.setCell ⟨w.heap.size+1+1,i,none⟩ (.bool true))
  have jI:=ah (show yR w acc (acc.map Gr.N.id++[(i:Int)]) (.slice A2 acc.length c2) W6 from iY▸dw.put hi4)
  have hb6:Below w.heap.size wr W6:=iY▸bG.setCell (p:=⟨w.heap.size+1+1,i,none⟩) (show w.heap.size<=w.heap.size+1+1 by omega) _
  obtain⟨Q,hQ⟩:=aj (Tb.oK f1);obtain⟨ls,ec⟩:=Q;have hlb:=qB.out W6;rw[hQ]at hp hlb
  have Mc:=ah hlb;have HP2:=ah hp;have dO:=ah hb6;have pI:=ah iY
  clear hp hbe hQ hlb iY hb6 HP qB
  go_upto_region 16 with fail
  rw[pI.out];clear pI a0 f0';obtain⟨-,q1,-⟩:=nI.out W6 dO.out;go_wp2_with fail
  refine Mc.mono ?_;rintro e w7 ⟨vl,rfl,ol,b7⟩
  have bD:=ah (dO.trans (b7.mono (adg HW0.out dO.size)));have pG:=ah (jI.below b7)
  clear b7 q1 Mc;by_cases qW:ec=0
  case neg=>
   have t3:((ec:Int) !=0)=true:=by rw[adY];omega
   have hr2:R=([],ec):=by rw[<-HP2.out,adk qW]
   subst hr2;clear ol;go_wp2_with fail;obtain⟨fA,hT,bK⟩:=pG.arr.arr
   obtain⟨cs0,hbx,hbz⟩:=pG.box
   refine wp_region_held_drew (S:=fun V=>au V (w.heap.size+1+1) 59 fA) (by kernel_rfl) hT (fun hHeld=> ?_)
   change wpAnyH _ _ _ _ _ 6 (Array.replicate 6 false) _ _
   refine aS 0 hHeld ?_
   (try simp only[Act.put,ac6,adi,adl])
   refine aS 1 (v:=.agg fA) hHeld ?_ (hv:=fun wq hq=>acT 59 (.tmp 6) rfl _ rfl 59 fA (0,0) _ hq Tryz.underlying59 rfl (oO bK.1))
   (try simp only[Act.put,ac6,adi,adl])
   refine aS 2 hHeld ?_
   (try simp only[Act.put,ac6,adi,adl])
   refine aS 3 hHeld ?_
   (try simp only[Act.put,ac6,adi,adl])
   clear hHeld
   refine wpAnyH_ready (rs:=[4]) (by kernel_rfl) (by simp) (AllReadyH.cons (by simp only[adE,adL,adn];rfl) (fun K hK=> ?_) AllReadyH.nil)
   rw[adk (by rfl)]
   refine wp_store_row 59 (.tmp 3) (.tmp 64) rfl _ fA rfl rfl 59 cs0 hbx (oO bK.1) (hbz.trans bK.1.symm) bK.one ?_
   refine hK.out _ _ (au.Qg (w:=w7.drew) hT (by omega)) (fun hHeld=> ?_)
   clear hK K
   (try simp only[Act.put,ac6,adi,adl])
   clear hHeld
   refine wpAnyH_ready (rs:=[5]) (by kernel_rfl) (by simp) (AllReadyH.cons (by simp only[adE,adL,adn];rfl) (fun K hK=> ?_) AllReadyH.nil)
   go_simp;refine hK.out _ _ (au.Qg (w:=w7.drew) hT (by omega)) (fun hHeld=> ?_)
   clear hK K;clear hHeld;refine wpAnyH_done (by kernel_rfl) ?_ _
   go_wp2_with fail
   exact Fh Tryz.results15 rfl rfl rfl (au.setRow (w:=w7.drew) hbx) bK.1 ⟨_,fA,_,rfl,bK,(fun h=>absurd h qW),below_setRow pG.bel.drew (ac4 _) _⟩
  subst qW;have hp:=HP2.out;rw[ade (by simp)]at hp
  have hol:=ol rfl;obtain⟨Al,cl,rfl⟩:=aF hol;have HOL:=ah hol
  obtain⟨Q,hQ⟩:=aj (Tb.bM ks (r.drop 2));obtain⟨ps,ep⟩:=Q;rw[hQ]at hp
  obtain⟨g0,g3⟩:=iJ.out w7 bD.out;rw[oC.out.2]at g0
  have hpr:=acR B A4 (some ⟨b2,o2,none⟩) c4 c3 rl 2 r0 r w7 g0 g3 (by omega) hwd2 (fun f hf=>Bv.out.2 f hf) (adg dh.out (adg HW0.out bD.size))
  rw[show r0.drop 2=ks from oC.out.1,hQ]at hpr
  have cZ:=ah hpr;have uO:=ah hp;obtain⟨-,-,q3⟩:=nI.out w7 bD.out
  clear hp hQ hpr hol ol g0 g3 HP2;go_wp2_with fail;refine cZ.mono ?_
  rintro e w8 ⟨vp,rfl,op,b8⟩;have mg:=ah (bD.trans (b8.mono (adg HW0.out bD.size)))
  have wK:=ah (pG.below b8)
  have aoS:=ah (aW HOL.out (dL b8 none) (fun g c t fz hr=>by cases hr))
  clear b8 q3 cZ;by_cases nJ:ep=0
  case neg=>
   have t3:((ep:Int) !=0)=true:=by rw[adY];omega
   have hr2:R=([],ep):=by rw[<-uO.out,adk nJ]
   subst hr2;clear op;go_wp2_with fail;obtain⟨fA,hT,bK⟩:=wK.arr.arr
   obtain⟨cs0,hbx,hbz⟩:=wK.box
   refine wp_region_held_drew (S:=fun V=>au V (w.heap.size+1+1) 59 fA) (by kernel_rfl) hT (fun hHeld=> ?_)
   change wpAnyH _ _ _ _ _ 6 (Array.replicate 6 false) _ _
   refine aS 0 hHeld ?_
   (try simp only[Act.put,ac6,adi,adl])
   refine aS 1 (v:=.agg fA) hHeld ?_ (hv:=fun wq hq=>acT 59 (.tmp 6) rfl _ rfl 59 fA (0,0) _ hq Tryz.underlying59 rfl (oO bK.1))
   (try simp only[Act.put,ac6,adi,adl])
   refine aS 2 hHeld ?_
   (try simp only[Act.put,ac6,adi,adl])
   refine aS 3 hHeld ?_
   (try simp only[Act.put,ac6,adi,adl])
   clear hHeld
   refine wpAnyH_ready (rs:=[4]) (by kernel_rfl) (by simp) (AllReadyH.cons (by simp only[adE,adL,adn];rfl) (fun K hK=> ?_) AllReadyH.nil)
   rw[adk (by rfl)]
   refine wp_store_row 59 (.tmp 3) (.tmp 77) rfl _ fA rfl rfl 59 cs0 hbx (oO bK.1) (hbz.trans bK.1.symm) bK.one ?_
   refine hK.out _ _ (au.Qg (w:=w8.drew) hT (by omega)) (fun hHeld=> ?_)
   clear hK K
   (try simp only[Act.put,ac6,adi,adl])
   clear hHeld
   refine wpAnyH_ready (rs:=[5]) (by kernel_rfl) (by simp) (AllReadyH.cons (by simp only[adE,adL,adn];rfl) (fun K hK=> ?_) AllReadyH.nil)
   go_simp;refine hK.out _ _ (au.Qg (w:=w8.drew) hT (by omega)) (fun hHeld=> ?_)
   clear hK K;clear hHeld;refine wpAnyH_done (by kernel_rfl) ?_ _
   go_wp2_with fail
   exact Fh Tryz.results15 rfl rfl rfl (au.setRow (w:=w8.drew) hbx) bK.1 ⟨_,fA,_,rfl,bK,(fun h=>absurd h nJ),below_setRow wK.bel.drew (ac4 _) _⟩
  subst nJ;have hp:=uO.out;rw[ade (by simp)]at hp
  have hop:=op rfl;obtain⟨Ap,cp,rfl⟩:=hop.form
  have hno:je w8 w.heap.size (⟨(i:Int),ls,ps⟩,[.int .i64 i,.slice Al ls.length cl,.slice Ap ps.length cp]):=
   ⟨_,_,rfl,own_base aoS.out (adg HS.bel.size dO.size),hop.base (adg HS.bel.size bD.size)⟩
  obtain⟨ln,h1,h2,h3⟩:=wK.own
  have jo:=ah (fun(v':Value) (w':World) (hg:w8.grownBy w' (Value.ownBlock (.slice A2 acc.length c2))) (ho:w'.ownsRow w.heap.size 42 3 v' (acc.length+1) (ln.flatMap Prod.snd++[.int .i64 i,.slice Al ls.length cl,.slice Ap ps.length cp]))=>eU.put h1 h2 h3 hno wK.bel.size hg ho)
  have H3:=ah h3;have hal:=HKK.out.2;have x9:acc.length<536870912:=by omega
  have hszW:=wK.bel.size;have NW:=ah hp;clear hp hop op hno h1 h2 h3 uO hal
  go_wp2_with (at_builtin;refine JF rfl (.tmp 79) (.tmp 84) 23 42 (.agg #[.int .i64 0,.slice none 0 0,.slice none 0 0]) 3 56 Tryz.underlying23 Ug rfl (by decide) (by decide) rfl w.heap.size (.slice A2 acc.length c2) acc.length (ln.flatMap Prod.snd) w8 rfl H3.out [.int .i64 i,.slice Al ls.length cl,.slice Ap ps.length cp] _ rfl rfl (by simp[Value.oneCell']) rfl x9 hszW ?_)
  intro v12 w12 jT ig yu rC;obtain⟨yw,c12,rfl⟩:=aF jT;obtain⟨cs0,hbx,hbz⟩:=wK.box
  obtain⟨fA,hT,bK⟩:=wK.arr.arr;have aoT:=World.ownsRow.lt H3.out
  have hne: ∀{g:Nat} {cs:Array Value},au w8 g 59 cs->some g≠(Value.slice A2 acc.length c2).ownBlock:=fun hb e=>by
   obtain⟨-,c',hc'⟩:=tY H3.out _ e.symm;rw[hb]at hc';cases hc'
  have rD:=ah (show yR w (acc++[⟨(i:Int),ls,ps⟩]) ((acc++[(⟨(i:Int),ls,ps⟩:Gr.N)]).map Gr.N.id) (.slice yw (acc.length+1) c12) w12 from
   ⟨⟨cs0,hbx.grown ig (hne hbx),hbz⟩,(show There w12 (w.heap.size+1+1) ((acc++[(⟨(i:Int),ls,ps⟩:Gr.N)]).map Gr.N.id) by rw[ad8];exact⟨fA,hT.grown ig (hne hT),bK.1,bK.2⟩),jo.out _ _ ig jT,wK.bel.trans rC⟩)
  have HLEN:=ah (show(acc++[(⟨(i:Int),ls,ps⟩:Gr.N)]).length=acc.length+1 by rw[adf];rfl)
  clear jT ig yu rC hbx hT hne aoT;go_wp2
  go_roundg q
  case measure=>omega
  exact⟨k+1,acc++[⟨(i:Int),ls,ps⟩],yw,c12,by rw[HLEN.out],int_eq (by omega),by have:=HKK.out.1;omega,by rw[HLEN.out];have:=HKK.out.2;omega,by rw[HLEN.out];exact⟨rD.out,NW.out⟩⟩
end Go.Proofs.YtkdakckjafomhaaGreatDoor
