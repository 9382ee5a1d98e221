/- Lemmas. -/
import Derived.Test.YtdijgcnlbfgkdaaGreatDoorUP07
set_option maxHeartbeats 64000000
set_option maxRecDepth 1000000
set_option linter.all false
namespace Go.Proofs.YtdijgcnlbfgkdaaGreatDoor
open Go.RowKit Go.Proofs.Tryz
def DN {w w':World} {B e e' n n' sz sz':Nat} {v x:Value} {xs ys:List Value} (h:w.ownsRow B e sz v n xs) (hg:w.grownBy w' x.ownBlock) (hx:w.ownsRow B e' sz' x n' ys) (hne:e'≠e):w'.ownsRow B e sz v n xs:=
 eu h hg (fun g c t fz hr hc=>by
  obtain⟨_,c',hc'⟩:=mW hx g hr;rw[hc']at hc;cases hc
  exact hne)
def jL {w:World} {B B' e sz n:Nat} {v:Value} {xs:List Value} (h:w.ownsRow B e sz v n xs) (hB:B'<=B):w.ownsRow B' e sz v n xs:=by
 refine⟨h.1, ?_⟩
 rcases h.2 with hn|⟨g,cap,cur,rfl,hb,rest⟩
 ·exact .inl hn
 exact .inr ⟨g,cap,cur,rfl,aep hB hb,rest⟩
def ret_val {fn:Func} {R:Ending->World->Prop} {tmps:Array Value} {W:World} {p:Tmp} {b:Nat} {v0 v1 v2 v3 v4:Value} (hfn:fn.results= #[.cell p 43])
  (ht:tmps.getD p undef=.pointer (some ⟨b,0,none⟩)) (hB:ak W b 43 #[v0,v1,v2,v3,v4]) (hR:R (.returned (.agg #[v0,v1,v2,v3,v4])) W):
  bodyPost prog fn R .ret {tmps:=tmps,defers:=[]} W:=by
 have c0:=hB.cell 0;have c1:=hB.cell 1;have c2:=hB.cell 2;have c3:=hB.cell 3;have c4:=hB.cell 4;simp at c0 c1 c2 c3 c4;refine arW (v:=.agg #[v0,v1,v2,v3,v4]) ?_ rfl hR;simp at ht;simp[results,hfn,go_sem,ht,c0,c1,c2,c3,c4]
def gQ {W:World} {b:Nat} {v0 v1 v2 v3 v4:Value} (h:ak W b 43 #[v0,v1,v2,v3,v4]):
  W.cell? ⟨b,0,none⟩=some v0/\W.cell? ⟨b,1,none⟩=some v1/\W.cell? ⟨b,2,none⟩=some v2/\W.cell? ⟨b,3,none⟩=some v3/\W.cell? ⟨b,4,none⟩=some v4/\
  W.frozen? ⟨b,0,none⟩=false/\W.frozen? ⟨b,1,none⟩=false/\W.frozen? ⟨b,2,none⟩=false/\W.frozen? ⟨b,3,none⟩=false/\W.frozen? ⟨b,4,none⟩=false:=
 ⟨h.cell 0,h.cell 1,h.cell 2,h.cell 3,h.cell 4,h.frozen 0,h.frozen 1,h.frozen 2,h.frozen 3,h.frozen 4⟩
def P5 {W:World} {b:Nat} {u0 u1 u2 u3 u4:Value} (h:ak W b 43 #[u0,u1,u2,u3,u4]) (v0 v1 v2 v3 v4:Value):
  ak (((((W.setCell ⟨b,0,none⟩ v0).setCell ⟨b,1,none⟩ v1).setCell ⟨b,2,none⟩ v2).setCell ⟨b,3,none⟩ v3).setCell ⟨b,4,none⟩ v4) b 43 #[v0,v1,v2,v3,v4]:=
 ak.cast (((((h.aG 0 v0).aG 1 v1).aG 2 v2).aG 3 v3).aG 4 v4) (by simp)
def P6 (W:World) (b:Nat) (v0 v1 v2 v3 v4:Value):W.grownBy (((((W.setCell ⟨b,0,none⟩ v0).setCell ⟨b,1,none⟩ v1).setCell ⟨b,2,none⟩ v2).setCell ⟨b,3,none⟩ v3).setCell ⟨b,4,none⟩ v4) (some b):=
 aS (aS (aS (aS (grownBy_set W ⟨b,0,none⟩ v0) (grownBy_set _ ⟨b,1,none⟩ v1)) (grownBy_set _ ⟨b,2,none⟩ v2)) (grownBy_set _ ⟨b,3,none⟩ v3)) (grownBy_set _ ⟨b,4,none⟩ v4)
structure wI (w:World) (a r:Array Value) (c0 c1 c2 s t:Value) (k j:Nat) (xs ys:List Value) (W:World):Prop where
 arg:ak W w.heap.size 43 a
 res:ak W (w.heap.size+1) 43 r
 Gl:ak W (w.heap.size+2) 43 #[c0,c1,c2,s,t]
 own:W.ownsRow (w.heap.size+3) 2 1 s k xs
 owt:W.ownsRow (w.heap.size+3) 9 1 t j ys
 bel:Below w.heap.size w W
 big:w.heap.size+3<=W.heap.size
def wI.drew {w:World} {a r:Array Value} {c0 c1 c2 s t:Value} {k j:Nat} {xs ys:List Value} {W:World} (h:wI w a r c0 c1 c2 s t k j xs ys W):wI w a r c0 c1 c2 s t k j xs ys W.drew:=
 ⟨h.arg,h.res,h.Gl,eu h.own (aaH (iw _ none)) (fun g c t fz e=>by cases e),eu h.owt (aaH (iw _ none)) (fun g c t fz e=>by cases e),h.bel.drew,h.big⟩
def wI.num {w:World} {a r:Array Value} {c0 c1 c2 s t:Value} {k j:Nat} {xs ys:List Value} {W W1:World} {s' u:Value} (h:wI w a r c0 c1 c2 s t k j xs ys W)
  (ho:W1.ownsRow (w.heap.size+3) 2 1 s' (k+1) (xs++[u])) (hg:W.grownBy W1 s.ownBlock) (hb:Below (w.heap.size+3) W W1):
  W1.cell? ⟨w.heap.size+2,3,none⟩=some s/\W1.frozen? ⟨w.heap.size+2,3,none⟩=false/\wI w a r c0 c1 c2 s' t (k+1) j (xs++[u]) ys (W1.setCell ⟨w.heap.size+2,3,none⟩ s'):=by
 have k0:=h.arg.below hb (by omega)
 have k1:=h.res.below hb (by omega)
 have k2:=h.Gl.below hb (by omega)
 have o2:=DN h.owt hg h.own (by decide)
 have hs:=grownBy_set W1 ⟨w.heap.size+2,3,none⟩ s'
 have nt: ∀{e:TypeId},e≠43-> ∀g c t fz,some (⟨w.heap.size+2,3,none⟩:Addr).block=some g->W1.heap[g]?=some (.cells c t fz)->t≠e:=fun he g c t fz e hc=>by
  cases e;unfold ak at k2;rw[k2]at hc;cases hc;exact atx he
 refine⟨k2.cell 3,k2.frozen 3,k0.far (by simp) _,k1.far (by simp) _,ak.cast (k2.aG 3 s') (by simp),eu ho hs (nt (by decide)),eu o2 hs (nt (by decide)), ?_, ?_⟩
 ·exact(h.bel.trans (hb.mono (by omega))).setCell (p:=⟨w.heap.size+2,3,none⟩) (by simp) _
 have:=h.big;have:=hb.size;simp;omega
def wI.txt {w:World} {a r:Array Value} {c0 c1 c2 s t:Value} {k j:Nat} {xs ys:List Value} {W W1:World} {t' u:Value} (h:wI w a r c0 c1 c2 s t k j xs ys W)
  (ho:W1.ownsRow (w.heap.size+3) 9 1 t' (j+1) (ys++[u])) (hg:W.grownBy W1 t.ownBlock) (hb:Below (w.heap.size+3) W W1):
  W1.cell? ⟨w.heap.size+2,4,none⟩=some t/\W1.frozen? ⟨w.heap.size+2,4,none⟩=false/\wI w a r c0 c1 c2 s t' k (j+1) xs (ys++[u]) (W1.setCell ⟨w.heap.size+2,4,none⟩ t'):=by
 have k0:=h.arg.below hb (by omega)
 have k1:=h.res.below hb (by omega)
 have k2:=h.Gl.below hb (by omega)
 have o2:=DN h.own hg h.owt (by decide)
 have hs:=grownBy_set W1 ⟨w.heap.size+2,4,none⟩ t'
 have nt: ∀{e:TypeId},e≠43-> ∀g c t fz,some (⟨w.heap.size+2,4,none⟩:Addr).block=some g->W1.heap[g]?=some (.cells c t fz)->t≠e:=fun he g c t fz e hc=>by
  cases e;unfold ak at k2;rw[k2]at hc;cases hc;exact atx he
 refine⟨k2.cell 4,k2.frozen 4,k0.far (by simp) _,k1.far (by simp) _,ak.cast (k2.aG 4 t') (by simp),eu o2 hs (nt (by decide)),eu ho hs (nt (by decide)), ?_, ?_⟩
 ·exact(h.bel.trans (hb.mono (by omega))).setCell (p:=⟨w.heap.size+2,4,none⟩) (by simp) _
 have:=h.big;have:=hb.size;simp;omega
def ai7 (B:Nat) (u:Value) (v:au.V) (w:World) (h:qM w B u v) (hB:B<=w.heap.size):
  Calls prog 169 #[u] w fun e w'=> ∃u',e=.returned u'/\uw w' w.heap.size u' v/\Below w.heap.size w w':=by
 obtain⟨A1,c1,A2,c2,rfl,dK,dN⟩:=h.ex;have hnl:=h.nl;have hsl:=h.sl;clear h;obtain⟨k0,n0,t0,ns,ts⟩:=v;simp only at dK dN hnl hsl⊢;obtain⟨nn,hnn⟩:=aj ns.length;obtain⟨tn,htn⟩:=aj ts.length;obtain⟨z,hz⟩:=aj (⟨t0.toArray⟩:ByteArray);rw[hnn]at dK hnl⊢;rw[htn]at dN hsl⊢;rw[hz]
 have hres: ∀w' s t,Below w.heap.size w w'->w'.ownsRow (w.heap.size+3) 2 1 s nn (ns.map I64)->w'.ownsRow (w.heap.size+3) 9 1 t tn (ts.map ST)->uw w' w.heap.size (.agg #[.int .i64 k0,.int .i64 n0,.string z,s,t]) ⟨k0,n0,t0,ns,ts⟩:=fun w' s t _ h1 h2=>by
  refine⟨s,t,by rw[<-hz], ?_, ?_⟩
  ·rw[hnn];exact jL h1 (by omega)
  rw[htn];exact jL h2 (by omega)
 obtain⟨W1,hW1⟩:=aj (((w.alloc (.cells #[.int .i64 k0,.int .i64 n0,.string z,.slice A1 nn c1,.slice A2 tn c2] 43)).alloc (.cells #[.int .i64 0,.int .i64 0,.string ⟨#[]⟩,.slice none 0 0,.slice none 0 0] 43)).alloc (.cells #[.int .i64 k0,.int .i64 n0,.string z,.slice none 0 0,.slice none 0 0] 43))
 have hcp:wI w #[.int .i64 k0,.int .i64 n0,.string z,.slice A1 nn c1,.slice A2 tn c2] #[.int .i64 0,.int .i64 0,.string ⟨#[]⟩,.slice none 0 0,.slice none 0 0] (.int .i64 k0) (.int .i64 n0) (.string z) (.slice none 0 0) (.slice none 0 0) 0 0 [] [] W1:=by
  rw[<-hW1];refine⟨((ak.new _ _ _).alloc _).alloc _, ?_, ?_,arU _ _ _ _,arU _ _ _ _,(((aoa _ w).alloc (aej _) _).alloc (by simp) _).alloc (by simp;omega) _,by simp⟩
  ·have:=(ak.new (w.alloc (.cells #[.int .i64 k0,.int .i64 n0,.string z,.slice A1 nn c1,.slice A2 tn c2] 43)) 43 #[.int .i64 0,.int .i64 0,.string ⟨#[]⟩,.slice none 0 0,.slice none 0 0]).alloc (.cells #[.int .i64 k0,.int .i64 n0,.string z,.slice none 0 0,.slice none 0 0] 43)
   simpa using this
  have:=ak.new ((w.alloc (.cells #[.int .i64 k0,.int .i64 n0,.string z,.slice A1 nn c1,.slice A2 tn c2] 43)).alloc (.cells #[.int .i64 0,.int .i64 0,.string ⟨#[]⟩,.slice none 0 0,.slice none 0 0] 43)) 43 #[.int .i64 k0,.int .i64 n0,.string z,.slice none 0 0,.slice none 0 0]
  simpa using this
 refine gq7 dK dN hcp hW1 hres hnn htn fun Ae Em eU HW1 jQ aC aW=>?_;clear dK dN hnn htn hz hcp hW1 hres;go_enter func169,ntmps169;go_wp2_with fail;rw[HW1.out];clear HW1
 go_loopg [4] nn (fun g x wr=> ∃(k:Nat) (s:Value),x=.int .i64 k/\k+g=nn/\wI w #[.int .i64 k0,.int .i64 n0,.string z,.slice A1 nn c1,.slice A2 tn c2] #[.int .i64 0,.int .i64 0,.string ⟨#[]⟩,.slice none 0 0,.slice none 0 0] (.int .i64 k0) (.int .i64 n0) (.string z) s (.slice none 0 0) k 0 ((ns.take k).map I64) [] wr)
 case atStart=>exact⟨0,_,rfl,by omega,eU.out⟩
 obtain⟨k,s,rfl,hk,hrel⟩:=hrel;have fQ:(k:Int)<=1073741824:=by omega
 have HK:=ah hk;have HR:=ah hrel;have hbig:=hrel.big;obtain⟨As,cs,rfl⟩:=aH hrel.own;obtain⟨a0,a1,a2,a3,a4,-⟩:=gQ hrel.arg;obtain⟨b0,b1,b2,b3,b4,-,-,-,f3,f4⟩:=gQ hrel.Gl;cases gk with
 |zero=>
  obtain rfl:k=nn:=by omega
  have hfull:(ns.take k).map I64=ns.map I64:=by rw[aeG (by have:=aC.out;omega)]
  rw[hfull]at hrel;have HR2:=ah hrel;clear hk hrel hfull HR b0 b1 b2 b3 b4 f3 f4;go_wp2_with fail;clear a0 a1 a2 a3 a4
  go_loopg [5] tn (fun g x wr=> ∃(j:Nat) (t:Value),x=.int .i64 j/\j+g=tn/\wI w #[.int .i64 k0,.int .i64 n0,.string z,.slice A1 k c1,.slice A2 tn c2] #[.int .i64 0,.int .i64 0,.string ⟨#[]⟩,.slice none 0 0,.slice none 0 0] (.int .i64 k0) (.int .i64 n0) (.string z) (.slice As k cs) t k j (ns.map I64) ((ts.take j).map ST) wr)
  case atStart=>exact⟨0,_,rfl,by omega,HR2.out⟩
  obtain⟨j,t,rfl,hj,hrel⟩:=hrel;have oH:(j:Int)<=1073741824:=by omega
  have HJ:=ah hj;have HR:=ah hrel;have hbig:=hrel.big;obtain⟨At,ct,rfl⟩:=aH hrel.owt;obtain⟨a0,a1,a2,a3,a4,-⟩:=gQ hrel.arg;obtain⟨b0,b1,b2,b3,b4,-,-,-,f3,f4⟩:=gQ hrel.Gl;obtain⟨e0,e1,e2,e3,e4,g0,g1,g2,g3,g4⟩:=gQ hrel.res;cases gk with
  |zero=>
   obtain rfl:j=tn:=by omega
   have hfull:(ts.take j).map ST=ts.map ST:=by rw[aeG (by have:=aW.out;omega)]
   rw[hfull]at hrel;have HR3:=ah hrel;clear hj hrel hfull HR;go_wp2;have hb:=(P5 HR3.res (.int .i64 k0) (.int .i64 n0) (.string z) (.slice As k cs) (.slice At j ct));have hon:=P6 wr (w.heap.size+1) (.int .i64 k0) (.int .i64 n0) (.string z) (.slice As k cs) (.slice At j ct);have hB3:=HR3.res
   have nt: ∀{e:TypeId},e≠43-> ∀g c t fz,some (w.heap.size+1)=some g->wr.heap[g]?=some (.cells c t fz)->t≠e:=fun he g c t fz e hc=>by
    cases e;unfold ak at hB3;rw[hB3]at hc;cases hc;exact atx he
   refine ret_val results169 rfl hb ⟨_,rfl,jQ.out _ _ _ ?_ (eu HR3.own hon (nt (by decide))) (eu HR3.owt hon (nt (by decide))), ?_⟩
   ·exact HR3.bel.grown hon HR3.bel.size (fun j e=>by cases e;omega)
   exact HR3.bel.grown hon HR3.bel.size (fun j e=>by cases e;omega)
  |succ g=>
   have hjn:j<tn:=by omega
   have BQ:(j:Int)<tn:=by omega
   have hjl:j<ts.length:=by rw[aW.out];exact hjn
   obtain⟨p,o,x,rfl,qN,hx,hp⟩:=Em.out.cell hjn;rw[aeY,aen hjl]at hx;obtain rfl:=(aeM hx).symm;obtain⟨y,hy⟩:=aj (ts[j]);rw[hy]at hp;have htk:(ts.take (j+1)).map ST=(ts.take j).map ST++[ST y]:=by rw[af0 hjl,afg,hy];rfl
   have nK:=ah htk;have hp':=(hrel.bel.cell (p:=⟨p,o+j,none⟩) (afn qN hB)).trans hp;unfold ST at hp';have HD:=ah hrel.drew;obtain⟨zy,hzy⟩:=aj (⟨y.toArray⟩:ByteArray);rw[hzy]at hp';have la4:=(hrel.arg.alloc (.cells #[.string zy] 9)).cell 4;have lb4:=(hrel.Gl.alloc (.cells #[.string zy] 9)).cell 4;have lp:=(((aoa wr.heap.size wr).alloc (aej _) (.cells #[.string zy] 9)).cell (KF hp')).trans hp';simp at la4 lb4;have LU:=ah hzy;clear hx hj hjl hy htk hrel hp e0 e1 e2 e3 e4 g0 g1 g2 g3 g4 hzy;go_wp2_with fail
   go_region_law (refine PZ rfl (.tmp 38) (.tmp 44) 34 9 (.string ⟨#[]⟩) 16 ar0 DK rfl (by decide) rfl (w.heap.size+3) (.slice At j ct) j _ wr.drew rfl HD.owt (.string zy) rfl rfl (by omega) hbig ?_;intro v1 w1 hown1 yH _ yJ;obtain⟨A9,c9,rfl⟩:=aH hown1;obtain⟨d3,Wx,hnx⟩:=HD.txt hown1 yH yJ)
   all_goals
    have oC:=ah hnx;clear hown1 yH yJ d3 Wx hnx;go_wp2
    go_roundg g
    case measure=>omega
    exact⟨j+1,_,int_eq' (by omega),by have:=HJ.out;omega,by rw[nK.out];unfold ST;rw[LU.out];exact oC.out⟩
 |succ g=>
  have hkn:k<nn:=by omega
  have dW:(k:Int)<nn:=by omega
  have hkl:k<ns.length:=by rw[aC.out];exact hkn
  obtain⟨p,o,x,rfl,qN,hx,hp⟩:=Ae.out.cell hkn;rw[aeY,aen hkl]at hx;obtain rfl:=(aeM hx).symm;obtain⟨y,hy⟩:=aj (ns[k]);rw[hy]at hp;have htk:(ns.take (k+1)).map I64=(ns.take k).map I64++[I64 y]:=by rw[af0 hkl,afg,hy];rfl
  have nK:=ah htk;have hp':=(hrel.bel.cell (p:=⟨p,o+k,none⟩) (afn qN hB)).trans hp;unfold I64 at hp';have HD:=ah hrel.drew;have la3:=(hrel.arg.alloc (.cells #[.int .i64 y] 2)).cell 3;have lb3:=(hrel.Gl.alloc (.cells #[.int .i64 y] 2)).cell 3;have lp:=(((aoa wr.heap.size wr).alloc (aej _) (.cells #[.int .i64 y] 2)).cell (KF hp')).trans hp';simp at la3 lb3;clear hx hk hkl hy htk hrel hp;go_wp2_with fail
  go_region_law (refine PZ rfl (.tmp 21) (.tmp 27) 41 2 (.int .i64 0) 8 as4 Uo rfl (by decide) rfl (w.heap.size+3) (.slice As k cs) k _ wr.drew rfl HD.own (.int .i64 y) rfl rfl (by omega) hbig ?_;intro v1 w1 hown1 yH _ yJ;obtain⟨A9,c9,rfl⟩:=aH hown1;obtain⟨d3,Wx,hnx⟩:=HD.num hown1 yH yJ)
  all_goals
   have oC:=ah hnx;clear hown1 yH yJ d3 Wx hnx;go_wp2
   go_roundg g
   case measure=>omega
   exact⟨k+1,_,int_eq' (by omega),by have:=HK.out;omega,by rw[nK.out];exact oC.out⟩
def bG (k n:Int) (t:List UInt8) (ns:List Int) (ts:List (List UInt8)):
  decide (au.Unused ⟨k,n,t,ns,ts⟩)=decide ((n≠0/\3<k)\/(0<t.length/\k≠4)\/(0<ns.length/\(k<5\/k=8))\/(0<ts.length/\k≠8)):=by
 apply decide_eq_decide.2
 unfold au.Unused;simp only[afB,ne_eq]
def uy {z:ByteArray} {t:List UInt8} (h:z.data.toList=t):z.toList=[]↔t.length=0:=by
 rw[aod,h,arA]
def ai8 {ts:List (List UInt8)} (h: ∀t∈ts,t.length<=1000):au.oZ ts=false:=by
 unfold au.oZ;rw[List.any_eq_false];intro t ht
 simpa using h t ht
def ai9 {ts:List (List UInt8)} {t:List UInt8} (h:t∈ts) (hl:1000<t.length):au.oZ ts=true:=by
 unfold au.oZ;rw[List.any_eq_true];exact⟨t,h,by simpa using hl⟩
def Us {k:Int}: ∀{l:List Int},(∀n∈l,au.kT k n=0)->au.uo k l=0
 |[],_=>rfl
 |n :: r,h=>by
  unfold au.uo;rw[aer (by rw[h n (by simp)];simp)]
  exact Us fun m hm=>h m (by simp[hm])
def Ut {k:Int} {e:Nat} (he:e≠0): ∀{l:List Int} (i:Nat) (n:Int),l[i]?=some n->au.kT k n=e->(∀(j:Nat) m,j<i->l[j]?=some m->au.kT k m=0)->au.uo k l=e
 |[],i,n,h,_,_=>by simp at h
 |a :: r,0,n,h,hn,_=>by
  simp at h;subst h;unfold au.uo;rw[hn,aeu he]
 |a :: r,i+1,n,h,hn,hz=>by
  unfold au.uo;rw[aer (by rw[hz 0 a (by omega) rfl];simp)]
  exact Ut he i n (by simpa using h) hn (fun j m hj hm=>hz (j+1) m (by omega) (by simpa using hm))
def Uu (B:Nat) (u:Value) (v:au.V) (w:World) (h:qM w B u v) (hB:B<=w.heap.size):
  Calls prog 115 #[u] w fun e w'=>e=.returned (.int .i64 (au.check v:Nat))/\Below w.heap.size w w':=by
 obtain⟨A1,c1,A2,c2,rfl,dK,dN⟩:=h.ex;have hnl:=h.nl;have hsl:=h.sl;obtain⟨hk1,hk2⟩:=h.kin;have hnum:=h.num;have Gm:=h.nums;have htl:=h.tl;have hsz:=h.sz;clear h;obtain⟨k0,n0,t0,ns,ts⟩:=v;simp only at dK dN hnl hsl hk1 hk2 hnum Gm htl hsz⊢;obtain⟨R,hR⟩:=aj (au.check ⟨k0,n0,t0,ns,ts⟩);rw[hR];obtain⟨nn,hnn⟩:=aj ns.length;obtain⟨tn,htn⟩:=aj ts.length;obtain⟨z,hz⟩:=aj (⟨t0.toArray⟩:ByteArray);have hzd:z.data.toList=t0:=by rw[<-hz]
 rw[hnn]at dK hnl⊢;rw[htn]at dN hsl⊢;rw[hz];obtain⟨W1,hW1⟩:=aj (w.alloc (.cells #[.int .i64 k0,.int .i64 n0,.string z,.slice A1 nn c1,.slice A2 tn c2] 43));have hb1:Below w.heap.size w W1:=by rw[<-hW1];exact(aoa _ w).alloc (aej _) _
 have k1:ak W1 w.heap.size 43 #[.int .i64 k0,.int .i64 n0,.string z,.slice A1 nn c1,.slice A2 tn c2]:=by rw[<-hW1];exact ak.new _ _ _
 refine gq9 (dK.below (hb1.mono hB)) (dN.below (hb1.mono hB)) hb1 hW1 hR hnn htn hzd hnum fun Ae Em HB1 HW1 HR aC aW HZD vS=>?_;refine gq3 Gm hsz htl fun Wy bf kJ=>?_;obtain⟨a0,a1,a2,a3,a4,-⟩:=gQ k1;clear dK dN hnn htn hz k1 hb1 hW1 hR hzd hnum Gm hsz htl;have hu:=o9;go_enter func115,ntmps115
 go_upto_region 1 with fail
 rw[HW1.out];clear HW1;by_cases hlo:k0<1
 ·have hr:R=40:=by rw[<-HR.out];unfold au.check;rw[aeu (.inl hlo)]
  have HRR:=ah hr;clear hr;go_wp2;go_ret;exact⟨by rw[HRR.out];rfl,HB1.out⟩
 by_cases hhi:8<k0
 ·have hr:R=40:=by rw[<-HR.out];unfold au.check;rw[aeu (.inr hhi)]
  have HRR:=ah hr;have t1:decide (k0<1)=false:=dF hlo;have t2:decide (8<k0)=true:=aei hhi;clear hr hlo hhi;go_wp2;go_ret;exact⟨by rw[HRR.out];rfl,HB1.out⟩
 have t1:decide (k0<1)=false:=dF hlo;have t2:decide (8<k0)=false:=dF hhi;have lg:Hid (1<=k0/\k0<=8):=ah ⟨by omega,by omega⟩
 clear hlo hhi hk1 hk2;obtain⟨U,hU⟩:=aj (decide (au.Unused ⟨k0,n0,t0,ns,ts⟩));have HU:=ah hU
 have hc1:au.check ⟨k0,n0,t0,ns,ts⟩=if U=true then 41 else if 40<nn\/40<tn then 45 else if 1000<t0.length\/au.oZ ts=true then 44 else if k0<4 then au.kT k0 n0 else au.uo (k0 - 4) ns:=by
  have hh:=lg.out;unfold au.check;rw[aer (by simp only;omega),<-hU,<-aC.out,<-aW.out]
  simp only[aeU]
 have lu:Hid (R=if U=true then 41 else if 40<nn\/40<tn then 45 else if 1000<t0.length\/au.oZ ts=true then 44 else if k0<4 then au.kT k0 n0 else au.uo (k0 - 4) ns):=HR.symm.trans hc1
 clear hU hc1 HR
 go_upto_region 3 with fail
 go_cut [58] (fun s58 wx=>s58=.bool U/\W1=wx)
 case first=>
  by_cases h:n0≠0
  ·have fN:(n0 !=0)=true:=afd.2 h
   have HN:=ah h;clear h;by_cases h:3<k0
   ·have f3:decide (3<k0)=true:=aei h
    have H3:=ah h;clear h;go_wp2_with fail;go_meet;exact⟨by rw[show U=true from by rw[<-HU.out,bG,aC.out,aW.out];exact aei (by have:=HN.out;have:=H3.out;omega)],rfl⟩
   have f3:decide (3<k0)=false:=dF h;have H3:=ah h;clear h;by_cases h:t0.length≠0
   ·have fT:z.toList.isEmpty=false:=by
     rw[ahc];exact fun e=>h ((uy HZD.out).1 e)
    have HT:=ah h;clear h;by_cases h:k0≠4
    ·have f4:(k0 !=4)=true:=afd.2 h
     have H4:=ah h;clear h;go_wp2_with fail;go_meet;exact⟨by rw[show U=true from by rw[<-HU.out,bG,aC.out,aW.out];exact aei (by have:=HN.out;have:=H3.out;have:=HT.out;have:=H4.out;omega)],rfl⟩
    have f4:(k0 !=4)=false:=by simpa using h
    have H4:=ah h;clear h;by_cases h:0<nn
    ·have fS:decide (0<nn)=true:=aei h
     have HS:=ah h;clear h;by_cases h:k0<5
     ·have f5:decide (k0<5)=true:=aei h
      have H5:=ah h;clear h;go_wp2_with fail;go_meet;exact⟨by rw[show U=true from by rw[<-HU.out,bG,aC.out,aW.out];exact aei (by have:=HN.out;have:=H3.out;have:=HT.out;have:=H4.out;have:=HS.out;have:=H5.out;omega)],rfl⟩
     have f5:decide (k0<5)=false:=dF h;have H5:=ah h;clear h;by_cases h:k0=8
     ·have f8:(k0 == 8)=true:=afc.2 h
      have H8:=ah h;clear h;go_wp2_with fail;go_meet;exact⟨by rw[show U=true from by rw[<-HU.out,bG,aC.out,aW.out];exact aei (by have:=HN.out;have:=H3.out;have:=HT.out;have:=H4.out;have:=HS.out;have:=H5.out;have:=H8.out;omega)],rfl⟩
     have f8:(k0 == 8)=false:=aek.2 h;have H8:=ah h;clear h;by_cases h:0<tn
     ·have fX:decide (0<tn)=true:=aei h
      have HX:=ah h;clear h;by_cases h:k0≠8
      ·have fM:(k0 !=8)=true:=afd.2 h
       have HM:=ah h;clear h;go_wp2_with fail;go_meet;exact⟨by rw[show U=true from by rw[<-HU.out,bG,aC.out,aW.out];exact aei (by have:=HN.out;have:=H3.out;have:=HT.out;have:=H4.out;have:=HS.out;have:=H5.out;have:=H8.out;have:=HX.out;have:=HM.out;omega)],rfl⟩
      have fM:(k0 !=8)=false:=by simpa using h
      have HM:=ah h;clear h;go_wp2_with fail;go_meet;exact⟨by rw[show U=false from by rw[<-HU.out,bG,aC.out,aW.out];exact dF (by have:=HN.out;have:=H3.out;have:=HT.out;have:=H4.out;have:=HS.out;have:=H5.out;have:=H8.out;have:=HX.out;have:=HM.out;omega)],rfl⟩
     have fX:decide (0<tn)=false:=dF h;have HX:=ah h;clear h;go_wp2_with fail;go_meet;exact⟨by rw[show U=false from by rw[<-HU.out,bG,aC.out,aW.out];exact dF (by have:=HN.out;have:=H3.out;have:=HT.out;have:=H4.out;have:=HS.out;have:=H5.out;have:=H8.out;have:=HX.out;omega)],rfl⟩
    have fS:decide (0<nn)=false:=dF h;have HS:=ah h;clear h;by_cases h:0<tn
    ·have fX:decide (0<tn)=true:=aei h
     have HX:=ah h;clear h;by_cases h:k0≠8
     ·have fM:(k0 !=8)=true:=afd.2 h
      have HM:=ah h;clear h;go_wp2_with fail;go_meet;exact⟨by rw[show U=true from by rw[<-HU.out,bG,aC.out,aW.out];exact aei (by have:=HN.out;have:=H3.out;have:=HT.out;have:=H4.out;have:=HS.out;have:=HX.out;have:=HM.out;omega)],rfl⟩
     have fM:(k0 !=8)=false:=by simpa using h
     have HM:=ah h;clear h;go_wp2_with fail;go_meet;exact⟨by rw[show U=false from by rw[<-HU.out,bG,aC.out,aW.out];exact dF (by have:=HN.out;have:=H3.out;have:=HT.out;have:=H4.out;have:=HS.out;have:=HX.out;have:=HM.out;omega)],rfl⟩
    have fX:decide (0<tn)=false:=dF h;have HX:=ah h;clear h;go_wp2_with fail;go_meet;exact⟨by rw[show U=false from by rw[<-HU.out,bG,aC.out,aW.out];exact dF (by have:=HN.out;have:=H3.out;have:=HT.out;have:=H4.out;have:=HS.out;have:=HX.out;omega)],rfl⟩
   have fT:z.toList.isEmpty=true:=by
    rw[an6];exact(uy HZD.out).2 (by omega)
   have HT:=ah h;clear h;by_cases h:0<nn
   ·have fS:decide (0<nn)=true:=aei h
    have HS:=ah h;clear h;by_cases h:k0<5
    ·have f5:decide (k0<5)=true:=aei h
     have H5:=ah h;clear h;go_wp2_with fail;go_meet;exact⟨by rw[show U=true from by rw[<-HU.out,bG,aC.out,aW.out];exact aei (by have:=HN.out;have:=H3.out;have:=HT.out;have:=HS.out;have:=H5.out;omega)],rfl⟩
    have f5:decide (k0<5)=false:=dF h;have H5:=ah h;clear h;by_cases h:k0=8
    ·have f8:(k0 == 8)=true:=afc.2 h
     have H8:=ah h;clear h;go_wp2_with fail;go_meet;exact⟨by rw[show U=true from by rw[<-HU.out,bG,aC.out,aW.out];exact aei (by have:=HN.out;have:=H3.out;have:=HT.out;have:=HS.out;have:=H5.out;have:=H8.out;omega)],rfl⟩
    have f8:(k0 == 8)=false:=aek.2 h;have H8:=ah h;clear h;by_cases h:0<tn
    ·have fX:decide (0<tn)=true:=aei h
     have HX:=ah h;clear h;by_cases h:k0≠8
     ·have fM:(k0 !=8)=true:=afd.2 h
      have HM:=ah h;clear h;go_wp2_with fail;go_meet;exact⟨by rw[show U=true from by rw[<-HU.out,bG,aC.out,aW.out];exact aei (by have:=HN.out;have:=H3.out;have:=HT.out;have:=HS.out;have:=H5.out;have:=H8.out;have:=HX.out;have:=HM.out;omega)],rfl⟩
     have fM:(k0 !=8)=false:=by simpa using h
     have HM:=ah h;clear h;go_wp2_with fail;go_meet;exact⟨by rw[show U=false from by rw[<-HU.out,bG,aC.out,aW.out];exact dF (by have:=HN.out;have:=H3.out;have:=HT.out;have:=HS.out;have:=H5.out;have:=H8.out;have:=HX.out;have:=HM.out;omega)],rfl⟩
    have fX:decide (0<tn)=false:=dF h;have HX:=ah h;clear h;go_wp2_with fail;go_meet;exact⟨by rw[show U=false from by rw[<-HU.out,bG,aC.out,aW.out];exact dF (by have:=HN.out;have:=H3.out;have:=HT.out;have:=HS.out;have:=H5.out;have:=H8.out;have:=HX.out;omega)],rfl⟩
   have fS:decide (0<nn)=false:=dF h;have HS:=ah h;clear h;by_cases h:0<tn
   ·have fX:decide (0<tn)=true:=aei h
    have HX:=ah h;clear h;by_cases h:k0≠8
    ·have fM:(k0 !=8)=true:=afd.2 h
     have HM:=ah h;clear h;go_wp2_with fail;go_meet;exact⟨by rw[show U=true from by rw[<-HU.out,bG,aC.out,aW.out];exact aei (by have:=HN.out;have:=H3.out;have:=HT.out;have:=HS.out;have:=HX.out;have:=HM.out;omega)],rfl⟩
    have fM:(k0 !=8)=false:=by simpa using h
    have HM:=ah h;clear h;go_wp2_with fail;go_meet;exact⟨by rw[show U=false from by rw[<-HU.out,bG,aC.out,aW.out];exact dF (by have:=HN.out;have:=H3.out;have:=HT.out;have:=HS.out;have:=HX.out;have:=HM.out;omega)],rfl⟩
   have fX:decide (0<tn)=false:=dF h;have HX:=ah h;clear h;go_wp2_with fail;go_meet;exact⟨by rw[show U=false from by rw[<-HU.out,bG,aC.out,aW.out];exact dF (by have:=HN.out;have:=H3.out;have:=HT.out;have:=HS.out;have:=HX.out;omega)],rfl⟩
  have fN:(n0 !=0)=false:=by simpa using h
  have HN:=ah h;clear h;by_cases h:t0.length≠0
  ·have fT:z.toList.isEmpty=false:=by
    rw[ahc];exact fun e=>h ((uy HZD.out).1 e)
   have HT:=ah h;clear h;by_cases h:k0≠4
   ·have f4:(k0 !=4)=true:=afd.2 h
    have H4:=ah h;clear h;go_wp2_with fail;go_meet;exact⟨by rw[show U=true from by rw[<-HU.out,bG,aC.out,aW.out];exact aei (by have:=HN.out;have:=HT.out;have:=H4.out;omega)],rfl⟩
   have f4:(k0 !=4)=false:=by simpa using h
   have H4:=ah h;clear h;by_cases h:0<nn
   ·have fS:decide (0<nn)=true:=aei h
    have HS:=ah h;clear h;by_cases h:k0<5
    ·have f5:decide (k0<5)=true:=aei h
     have H5:=ah h;clear h;go_wp2_with fail;go_meet;exact⟨by rw[show U=true from by rw[<-HU.out,bG,aC.out,aW.out];exact aei (by have:=HN.out;have:=HT.out;have:=H4.out;have:=HS.out;have:=H5.out;omega)],rfl⟩
    have f5:decide (k0<5)=false:=dF h;have H5:=ah h;clear h;by_cases h:k0=8
    ·have f8:(k0 == 8)=true:=afc.2 h
     have H8:=ah h;clear h;go_wp2_with fail;go_meet;exact⟨by rw[show U=true from by rw[<-HU.out,bG,aC.out,aW.out];exact aei (by have:=HN.out;have:=HT.out;have:=H4.out;have:=HS.out;have:=H5.out;have:=H8.out;omega)],rfl⟩
    have f8:(k0 == 8)=false:=aek.2 h;have H8:=ah h;clear h;by_cases h:0<tn
    ·have fX:decide (0<tn)=true:=aei h
     have HX:=ah h;clear h;by_cases h:k0≠8
     ·have fM:(k0 !=8)=true:=afd.2 h
      have HM:=ah h;clear h;go_wp2_with fail;go_meet;exact⟨by rw[show U=true from by rw[<-HU.out,bG,aC.out,aW.out];exact aei (by have:=HN.out;have:=HT.out;have:=H4.out;have:=HS.out;have:=H5.out;have:=H8.out;have:=HX.out;have:=HM.out;omega)],rfl⟩
     have fM:(k0 !=8)=false:=by simpa using h
     have HM:=ah h;clear h;go_wp2_with fail;go_meet;exact⟨by rw[show U=false from by rw[<-HU.out,bG,aC.out,aW.out];exact dF (by have:=HN.out;have:=HT.out;have:=H4.out;have:=HS.out;have:=H5.out;have:=H8.out;have:=HX.out;have:=HM.out;omega)],rfl⟩
    have fX:decide (0<tn)=false:=dF h;have HX:=ah h;clear h;go_wp2_with fail;go_meet;exact⟨by rw[show U=false from by rw[<-HU.out,bG,aC.out,aW.out];exact dF (by have:=HN.out;have:=HT.out;have:=H4.out;have:=HS.out;have:=H5.out;have:=H8.out;have:=HX.out;omega)],rfl⟩
   have fS:decide (0<nn)=false:=dF h;have HS:=ah h;clear h;by_cases h:0<tn
   ·have fX:decide (0<tn)=true:=aei h
    have HX:=ah h;clear h;by_cases h:k0≠8
    ·have fM:(k0 !=8)=true:=afd.2 h
     have HM:=ah h;clear h;go_wp2_with fail;go_meet;exact⟨by rw[show U=true from by rw[<-HU.out,bG,aC.out,aW.out];exact aei (by have:=HN.out;have:=HT.out;have:=H4.out;have:=HS.out;have:=HX.out;have:=HM.out;omega)],rfl⟩
    have fM:(k0 !=8)=false:=by simpa using h
    have HM:=ah h;clear h;go_wp2_with fail;go_meet;exact⟨by rw[show U=false from by rw[<-HU.out,bG,aC.out,aW.out];exact dF (by have:=HN.out;have:=HT.out;have:=H4.out;have:=HS.out;have:=HX.out;have:=HM.out;omega)],rfl⟩
   have fX:decide (0<tn)=false:=dF h;have HX:=ah h;clear h;go_wp2_with fail;go_meet;exact⟨by rw[show U=false from by rw[<-HU.out,bG,aC.out,aW.out];exact dF (by have:=HN.out;have:=HT.out;have:=H4.out;have:=HS.out;have:=HX.out;omega)],rfl⟩
  have fT:z.toList.isEmpty=true:=by
   rw[an6];exact(uy HZD.out).2 (by omega)
  have HT:=ah h;clear h;by_cases h:0<nn
  ·have fS:decide (0<nn)=true:=aei h
   have HS:=ah h;clear h;by_cases h:k0<5
   ·have f5:decide (k0<5)=true:=aei h
    have H5:=ah h;clear h;go_wp2_with fail;go_meet;exact⟨by rw[show U=true from by rw[<-HU.out,bG,aC.out,aW.out];exact aei (by have:=HN.out;have:=HT.out;have:=HS.out;have:=H5.out;omega)],rfl⟩
   have f5:decide (k0<5)=false:=dF h;have H5:=ah h;clear h;by_cases h:k0=8
   ·have f8:(k0 == 8)=true:=afc.2 h
    have H8:=ah h;clear h;go_wp2_with fail;go_meet;exact⟨by rw[show U=true from by rw[<-HU.out,bG,aC.out,aW.out];exact aei (by have:=HN.out;have:=HT.out;have:=HS.out;have:=H5.out;have:=H8.out;omega)],rfl⟩
   have f8:(k0 == 8)=false:=aek.2 h;have H8:=ah h;clear h;by_cases h:0<tn
   ·have fX:decide (0<tn)=true:=aei h
    have HX:=ah h;clear h;by_cases h:k0≠8
    ·have fM:(k0 !=8)=true:=afd.2 h
     have HM:=ah h;clear h;go_wp2_with fail;go_meet;exact⟨by rw[show U=true from by rw[<-HU.out,bG,aC.out,aW.out];exact aei (by have:=HN.out;have:=HT.out;have:=HS.out;have:=H5.out;have:=H8.out;have:=HX.out;have:=HM.out;omega)],rfl⟩
    have fM:(k0 !=8)=false:=by simpa using h
    have HM:=ah h;clear h;go_wp2_with fail;go_meet;exact⟨by rw[show U=false from by rw[<-HU.out,bG,aC.out,aW.out];exact dF (by have:=HN.out;have:=HT.out;have:=HS.out;have:=H5.out;have:=H8.out;have:=HX.out;have:=HM.out;omega)],rfl⟩
   have fX:decide (0<tn)=false:=dF h;have HX:=ah h;clear h;go_wp2_with fail;go_meet;exact⟨by rw[show U=false from by rw[<-HU.out,bG,aC.out,aW.out];exact dF (by have:=HN.out;have:=HT.out;have:=HS.out;have:=H5.out;have:=H8.out;have:=HX.out;omega)],rfl⟩
  have fS:decide (0<nn)=false:=dF h;have HS:=ah h;clear h;by_cases h:0<tn
  ·have fX:decide (0<tn)=true:=aei h
   have HX:=ah h;clear h;by_cases h:k0≠8
   ·have fM:(k0 !=8)=true:=afd.2 h
    have HM:=ah h;clear h;go_wp2_with fail;go_meet;exact⟨by rw[show U=true from by rw[<-HU.out,bG,aC.out,aW.out];exact aei (by have:=HN.out;have:=HT.out;have:=HS.out;have:=HX.out;have:=HM.out;omega)],rfl⟩
   have fM:(k0 !=8)=false:=by simpa using h
   have HM:=ah h;clear h;go_wp2_with fail;go_meet;exact⟨by rw[show U=false from by rw[<-HU.out,bG,aC.out,aW.out];exact dF (by have:=HN.out;have:=HT.out;have:=HS.out;have:=HX.out;have:=HM.out;omega)],rfl⟩
  have fX:decide (0<tn)=false:=dF h;have HX:=ah h;clear h;go_wp2_with fail;go_meet;exact⟨by rw[show U=false from by rw[<-HU.out,bG,aC.out,aW.out];exact dF (by have:=HN.out;have:=HT.out;have:=HS.out;have:=HX.out;omega)],rfl⟩
 case rest=>
  obtain⟨rfl,rfl⟩:=hcut;cases U with
  |true=>
   have hr:R=41:=by rw[lu.out,aeu rfl]
   have HRR:=ah hr;clear hr;go_wp2;go_ret;exact⟨by rw[HRR.out];rfl,HB1.out⟩
  |false=>
   have hr0:=lu.out;rw[aer (by decide)]at hr0
   have rQ:=HU.out;rw[bG,anW,aC.out,aW.out]at rQ;simp only[aq2]at rQ;obtain⟨u1,u2,u3,u4⟩:=rQ;have Jk:=ah (⟨u1,u2,u3,u4⟩:_/\_/\_/\_);have HR1:=ah hr0;clear u1 u2 u3 u4 hr0 lu HU;by_cases lC:40<nn
   ·have hr:R=45:=by rw[HR1.out,aeu (.inl lC)]
    have HRR:=ah hr;have f1:decide (40<nn)=true:=aei lC;have f1':(40:Int)<nn:=by omega
    clear hr lC;go_wp2;go_ret;exact⟨by rw[HRR.out];rfl,HB1.out⟩
   have f1:decide (40<nn)=false:=dF lC;by_cases uJ:40<tn
   ·have hr:R=45:=by rw[HR1.out,aeu (.inr uJ)]
    have HRR:=ah hr;have f2:decide (40<tn)=true:=aei uJ;have f2':(40:Int)<tn:=by omega
    have f1':(nn:Int)<=40:=by omega
    clear hr lC uJ;go_wp2;go_ret;exact⟨by rw[HRR.out];rfl,HB1.out⟩
   have f2:decide (40<tn)=false:=dF uJ;have hr1:=HR1.out;rw[aer (by omega)]at hr1
   have HR2:=ah hr1;have aqP:(nn:Int)<=40:=by omega
   have BR:(tn:Int)<=40:=by omega
   clear hr1 HR1;by_cases hk4:k0<4
   ·have hr:R=au.kT k0 n0:=by
     have rQ:=Jk.out;have hlo:=lg.out;have htz:tn=0:=by have:=rQ.2.2.2;omega
     have hte:ts=[]:=aeI (by rw[aW.out];exact htz)
     have htt:t0.length=0:=by have:=rQ.2.1;omega
     rw[HR2.out,aer (by rw[hte];rintro(h|h);omega;cases h),aeu hk4]
    have hcall:=fun(W:World)=>aa5 k0 n0 W (by have:=lg.out;unfold au.In64;omega) vS.out
    rw[<-hr]at hcall;have HC:=ah hcall;have f3:decide (k0<4)=true:=aei hk4;clear hr hcall hk4 lC uJ;go_wp2_with fail;refine iq7 (HC.out _) ?_;go_wp2;go_ret;exact⟨rfl,HB1.out⟩
   have f3:decide (k0<4)=false:=dF hk4;by_cases LW:k0=4
   ·have f4:(k0 == 4)=true:=afc.2 LW
    by_cases htx:1000<t0.length
    ·have hr:R=44:=by rw[HR2.out,aeu (.inl htx)]
     have HRR:=ah hr;have hzs:z.size=t0.length:=by rw[aof,HZD.out]
     have f5:decide (1000<z.size)=true:=aei (by omega)
     have f5':(1000:Int)<z.size:=by omega
     clear hr hk4 LW lC uJ htx hzs;go_wp2;go_ret;exact⟨by rw[HRR.out];rfl,HB1.out⟩
    have hzs:z.size=t0.length:=by rw[aof,HZD.out]
    have f5:decide (1000<z.size)=false:=dF (by omega)
    have f5':(z.size:Int)<=1000:=by omega
    have hr:R=0/\nn=0/\tn=0:=by
     have rQ:=Jk.out;have htz:tn=0:=by have:=rQ.2.2.2;omega
     have hnz:nn=0:=by have:=rQ.2.2.1;omega
     have hte:ts=[]:=aeI (by rw[aW.out];exact htz)
     have hne:ns=[]:=aeI (by rw[aC.out];exact hnz)
     refine⟨?_,hnz,htz⟩;rw[HR2.out,aer (by rw[hte];rintro(h|h);exact htx h;cases h),aer hk4,hne]
     rfl
    obtain⟨hr,rfl,rfl⟩:=hr;have HRR:=ah hr;clear hr hk4 LW lC uJ htx hzs;go_wp2_with fail
    go_loopg [3] 0 (fun g x wr=>x=.int .i64 0/\W1=wr)
    case atStart=>exact⟨rfl,rfl⟩
    obtain⟨rfl,rfl⟩:=hrel;go_wp2_with fail
    go_loopg [5] 0 (fun g x wr=>x=.int .i64 0/\W1=wr)
    case atStart=>exact⟨rfl,rfl⟩
    obtain⟨rfl,rfl⟩:=hrel;go_wp2;go_ret;exact⟨by rw[HRR.out];rfl,HB1.out⟩
   have f4:(k0 == 4)=false:=aek.2 LW;have hk5:(5:Int)<=k0:=by omega
   have hk8:k0<=8:=lg.out.2;have htt:t0.length=0:=by have:=Jk.out.2.1;omega
   have hr3:=HR2.out;rw[aer hk4]at hr3
   have HR3:Hid (R=if au.oZ ts=true then 44 else au.uo (k0 - 4) ns):=by
    rw[hr3];by_cases hl:au.oZ ts=true
    ·rw[aeu (.inr hl),aeu hl];exact ah rfl
    rw[aer (by rintro(h|h);omega;exact hl h),aer hl];exact ah rfl
   clear hr3 HR2 hk4 LW lC uJ htt;go_wp2_with fail
   go_loopg [3] nn (fun g x wr=> ∃k m:Nat,x=.int .i64 k/\k+g=nn/\W1.drewN m=wr/\ ∀(j:Nat) y,j<k->ns[j]?=some y->au.kT (k0 - 4) y=0)
   case atStart=>exact⟨0,0,rfl,by omega,rfl,fun j y hj=>by omega⟩
   obtain⟨k,m,rfl,hk,rfl,hz⟩:=hrel;have HZ:=ah hz;have HK:=ah hk;have fQ:(k:Int)<=40:=by omega
   clear hz;cases gk with
   |zero=>
    obtain rfl:k=nn:=by omega
    have hall:au.uo (k0 - 4) ns=0:=Us (fun y hy=>by
     obtain⟨j,hj,e⟩:=agM hy
     exact HZ.out j y (by have:=aC.out;omega) (by rw[aen hj,e]))
    have HA:=ah hall;clear hk hall;go_wp2_with fail
    go_loopg [5] tn (fun g x wr=> ∃j m:Nat,x=.int .i64 j/\j+g=tn/\W1.drewN m=wr/\ ∀(i:Nat) y,i<j->ts[i]?=some y->y.length<=1000)
    case atStart=>exact⟨0,m,rfl,by omega,rfl,fun j y hj=>by omega⟩
    obtain⟨j,m,rfl,hj,rfl,hz⟩:=hrel;have HZ2:=ah hz;have HJ:=ah hj;have oH:(j:Int)<=40:=by omega
    clear hz;cases gk with
    |zero=>
     obtain rfl:j=tn:=by omega
     have hr:R=0:=by
      rw[HR3.out,aer,HA.out];rw[ai8]
      ·decide
      intro y hy;obtain⟨i,hi,e⟩:=agM hy;exact HZ2.out i y (by have:=aW.out;omega) (by rw[aen hi,e])
     have HRR:=ah hr;clear hj hr;go_wp2;go_ret;exact⟨by rw[HRR.out];rfl,below_drewN HB1.out _⟩
    |succ g=>
     have hjn:j<tn:=by omega
     have BQ:(j:Int)<tn:=by omega
     have hjl:j<ts.length:=by rw[aW.out];exact hjn
     obtain⟨p,o,x,rfl,qN,hx,hp⟩:=Em.out.cell hjn;rw[aeY,aen hjl]at hx;obtain rfl:=(aeM hx).symm;obtain⟨y,hy⟩:=aj (ts[j]);rw[hy]at hp;have hyl:y.length<=1073741824:=bf.out y (by rw[<-hy];exact List.getElem_mem _)
     have hyj:ts[j]?=some y:=by rw[aen hjl,hy]
     obtain⟨zy,hzy⟩:=aj (⟨y.toArray⟩:ByteArray);unfold ST at hp;rw[hzy]at hp;have hzs:zy.size=y.length:=by rw[<-hzy];exact dR _
     have HYJ:=ah hyj;by_cases hy1:1000<y.length
     ·have hr:R=44:=by rw[HR3.out,aeu (ai9 (aew HYJ.out) hy1)]
      have HRR:=ah hr;have f6:decide (1000<zy.size)=true:=aei (by omega)
      have f6':(1000:Int)<zy.size:=by omega
      clear hx hj hjl hy hyj hzy hzs hr hy1 hyl;go_wp2;go_ret;exact⟨by rw[HRR.out];rfl,below_drewN HB1.out _⟩
     have f6:decide (1000<zy.size)=false:=dF (by omega)
     have f6':(zy.size:Int)<=1000:=by omega
     have LX:=ah hy1;clear hx hj hjl hy hyj hzy hzs hy1 hyl;go_wp2
     go_roundg g
     case measure=>omega
     refine⟨j+1,m,int_eq' (by omega),by have:=HJ.out;omega,rfl,fun i q hi hq=> ?_⟩
     by_cases e:i=j
     ·rw[e,HYJ.out]at hq
      cases hq;have:=LX.out;omega
     exact HZ2.out i q (by omega) hq
   |succ g=>
    have hkn:k<nn:=by omega
    have dW:(k:Int)<nn:=by omega
    have hkl:k<ns.length:=by rw[aC.out];exact hkn
    obtain⟨p,o,x,rfl,qN,hx,hp⟩:=Ae.out.cell hkn;rw[aeY,aen hkl]at hx;obtain rfl:=(aeM hx).symm;obtain⟨y,hy⟩:=aj (ns[k]);rw[hy]at hp;unfold I64 at hp;have hyk:ns[k]?=some y:=by rw[aen hkl,hy]
    have hcall:=fun(W:World)=>(aa5 (k0 - 4) y W (by unfold au.In64;omega) (Wy.out y (aew hyk))).mono fun e w' (h:_/\W=w')=>(⟨h.1,h.2.symm⟩:e=.returned (.int .i64 (au.kT (k0 - 4) y:Nat))/\w'=W)
    obtain⟨er,her⟩:=aj (au.kT (k0 - 4) y);rw[her]at hcall;refine gq3 hcall hyk her fun HC LZ L6=>?_;have r1:IntKind.i64.wrap (k0 - 4)=k0 - 4:=as1 _ (by omega)
    by_cases he:er=0
    ·subst he
     clear hx hk hkl hy hyk hcall her;go_wp2_with fail
     go_quiet ((go_at_call 168;exact xY (HC.out _)))
     go_wp2
     go_roundg g
     case measure=>omega
     refine⟨k+1,m+nq,int_eq' (by omega),by have:=HK.out;omega,rfl,fun i q hi hq=> ?_⟩
     by_cases e:i=k
     ·rw[e,LZ.out]at hq
      cases hq;exact L6.out
     exact HZ.out i q (by omega) hq
    have hw1:au.uo (k0 - 4) ns=er:=Ut he k y LZ.out L6.out HZ.out
    have hr:R=er:=by
     have rQ:=Jk.out;have htz:tn=0:=by have:=rQ.2.2.2;have:=rQ.2.2.1;omega
     have hte:ts=[]:=aeI (by rw[aW.out];exact htz)
     rw[HR3.out,aer (by rw[hte];exact fun h=>by cases h),hw1]
    have heb:((er:Int) !=0)=true:=by rw[afd];omega
    have HRR:=ah hr;clear hx hk hkl hy hyk hcall her hw1 hr he;go_wp2_with fail
    go_quiet ((go_at_call 168;exact xY (HC.out _)))
    go_wp2;go_ret;exact⟨by rw[HRR.out];rfl,below_drewN HB1.out _⟩
 end Go.Proofs.YtdijgcnlbfgkdaaGreatDoor
