/- Contracts and plain laws,part 16. -/
import Derived.Test.YtanlehkalkafdaaGreatDoorUR15
import Derived.RegionDies
import Derived.Defers
import Derived.Recover
import Derived.Laws.Pointers
import Derived.Maps.Own
import Derived.Maps.OwnOps
import Derived.Maps.OwnIn
import Derived.Maps.Views
import Derived.StringKeys
set_option maxHeartbeats 64000000
set_option maxRecDepth 1000000
set_option linter.all false
namespace Go.Proofs.YtanlehkalkafdaaGreatDoor
open Go.RowKit
theorem Lst.prop {W:World} {B:Nat} {A:Option Addr} {l:List Gr.P} (h:Lst W B 6 (PropC W B) A l) {k:Nat} {p:Gr.P} (hk:l[k]?=some p): ∃b o An cn At ct,A=some ⟨b,o,none⟩/\b<B/\
  (W.cell? ⟨b,o+k*6,none⟩=some (ST p.key)/\W.cell? ⟨b,o+k*6+1,none⟩=some (.int .i64 p.val.kind)/\W.cell? ⟨b,o+k*6+2,none⟩=some (.int .i64 p.val.num)/\W.cell? ⟨b,o+k*6+3,none⟩=some (ST p.val.text)/\
  W.cell? ⟨b,o+k*6+4,none⟩=some (.slice An p.val.nums.length cn)/\W.cell? ⟨b,o+k*6+5,none⟩=some (.slice At p.val.texts.length ct))/\Reads W B 1 An p.val.nums.length (p.val.nums.map I64)/\Reads W B 1 At p.val.texts.length (p.val.texts.map ST):=by
 obtain⟨b,o,cs,hA,hb,⟨An,cn,At,ct,rfl,h1,h2⟩,-,hc⟩:=h k p hk
 exact⟨b,o,An,cn,At,ct,hA,hb,⟨hc 0 _ rfl,hc 1 _ rfl,hc 2 _ rfl,hc 3 _ rfl,hc 4 _ rfl,hc 5 _ rfl⟩,h1,h2⟩
theorem vin_of {W:World} {B:Nat} {v:Cel.V} {An At:Option Addr} {cn ct:Nat} (hv:VOk v) (h1:Reads W B 1 An v.nums.length (v.nums.map I64)) (h2:Reads W B 1 At v.texts.length (v.texts.map ST)):
  VIn W B (.agg #[.int .i64 v.kind,.int .i64 v.num,ST v.text,.slice An v.nums.length cn,.slice At v.texts.length ct]) v:=
 ⟨⟨An,cn,At,ct,rfl,h1,h2⟩,hv.kin,hv.num,hv.nums,hv.tl,hv.nl,hv.sl,hv.sz⟩
theorem bel_next {a b w:World} (h:Below a.heap.size a b) (k:Below b.heap.size b w):Below a.heap.size a w:=h.trans (k.mono h.size)
theorem cells6 {W:World} {b:Nat} {T:TypeId} {v0 v1 v2 v3 v4 v5:Value} (h:Blk W b T #[v0,v1,v2,v3,v4,v5]):
  W.cell? ⟨b,0,none⟩=some v0/\W.cell? ⟨b,1,none⟩=some v1/\W.cell? ⟨b,2,none⟩=some v2/\W.cell? ⟨b,3,none⟩=some v3/\W.cell? ⟨b,4,none⟩=some v4/\W.cell? ⟨b,5,none⟩=some v5:=
 ⟨h.cell 0,h.cell 1,h.cell 2,h.cell 3,h.cell 4,h.cell 5⟩
theorem cells5 {W:World} {b:Nat} {T:TypeId} {v0 v1 v2 v3 v4:Value} (h:Blk W b T #[v0,v1,v2,v3,v4]):
  W.cell? ⟨b,0,none⟩=some v0/\W.cell? ⟨b,1,none⟩=some v1/\W.cell? ⟨b,2,none⟩=some v2/\W.cell? ⟨b,3,none⟩=some v3/\W.cell? ⟨b,4,none⟩=some v4:=
 ⟨h.cell 0,h.cell 1,h.cell 2,h.cell 3,h.cell 4⟩
theorem cells3 {W:World} {b:Nat} {T:TypeId} {v0 v1 v2:Value} (h:Blk W b T #[v0,v1,v2]):W.cell? ⟨b,0,none⟩=some v0/\W.cell? ⟨b,1,none⟩=some v1/\W.cell? ⟨b,2,none⟩=some v2:=
 ⟨h.cell 0,h.cell 1,h.cell 2⟩
theorem cells2 {W:World} {b:Nat} {T:TypeId} {v0 v1:Value} (h:Blk W b T #[v0,v1]):W.cell? ⟨b,0,none⟩=some v0/\W.cell? ⟨b,1,none⟩=some v1:=
 ⟨h.cell 0,h.cell 1⟩
theorem checkProps_any (B:Nat) (A:Option Addr) (c:Nat) (ps:List Gr.P) (w:World) (h:Lst w B 6 (PropC w B) A ps) (hB:B<=w.heap.size) (hl:ps.length<=1073741824) (hs: ∀p∈ps,POk p):
  Calls Tryz.prog 91 #[.slice A ps.length c] w fun e w'=>e=.returned (.int .i64 (Gr.propsWrong ps:Nat))/\Below w.heap.size w w':=by
 obtain⟨R,hR⟩:=aj (Gr.propsWrong ps);rw[hR];unfold Gr.propsWrong at hR
 obtain⟨n,hn⟩:=aj ps.length;rw[hn]at hl hR⊢;have HH:=ah h;have HS:=ah hs;have HN:=ah hn
 have HU:=ah undef_nil;by_cases h8:16<n
 ·rw[rY h8]at hR
  subst hR;have h8i:(16:Int)<n:=by omega
  have t8:decide ((16:Int)<n)=true:=rQ h8i;clear h h8 hs hl
  go_enter Tryz.func91,Tryz.ntmps91;go_wp2;go_ret;exact⟨rfl,Below.refl _ _⟩
 rw[rU h8]at hR;have HR:=ah hR;have h8i:(n:Int)<=16:=by omega
 have t8:decide ((16:Int)<n)=false:=rO (by omega)
 clear h h8 hs hl hR;go_enter Tryz.func91,Tryz.ntmps91;go_wp2_with fail
 go_loopg [11] n (fun g x wr=> ∃k:Nat,x=.int .i64 k/\k+g=n/\Below w.heap.size w wr/\ ∀j a,j<k->ps[j]?=some a->Gr.propWrong (Gr.prevAt Gr.P.key ps j) a=0)
 case atStart=>exact⟨0,rfl,by omega,Below.refl _ _,fun j a h=>by omega⟩
 obtain⟨k,rfl,hk,hb,hz⟩:=hrel;have HK:=ah hk;have HZ:=ah hz;have HB:=ah hb;clear hz hb
 cases gk with
 |zero=>
  obtain rfl:k=n:=by omega
  have hr:=first_done HN.out HR.out HZ.out;have HRR:=ah hr;clear hk hr;go_wp2;go_ret
  exact⟨by rw[HRR.out];rfl,HB.out⟩
 |succ g=>
  have hkn:k<n:=by omega
  have hknI:(k:Int)<n:=by omega
  obtain⟨p,hp⟩: ∃p,ps[k]?=some p:=⟨_,ay (by rw[HN.out];exact hkn)⟩
  have HP:=ah hp;have hLB:=HH.below (HB.mono hB) (PropC.below (HB.mono hB))
  obtain⟨b,o,An,cn,At,ct,rfl,hbB,⟨c0,c1,c2,c3,c4,c5⟩,r1,r2⟩:=hLB.prop hp
  obtain⟨z,hz⟩:=aj (⟨p.key.toArray⟩:ByteArray)
  obtain⟨zt,hzt⟩:=aj (⟨p.val.text.toArray⟩:ByteArray);unfold ST at c0 c3;rw[hz]at c0
  rw[hzt]at c3;clear hp hk hkn;have hpok:=HS.out p (sK HP.out)
  obtain⟨W1,hW1⟩:=aj (wr.alloc (.cells #[.string z,.int .i64 p.val.kind,.int .i64 p.val.num,.string zt,.slice An p.val.nums.length cn,.slice At p.val.texts.length ct] 53))
  have hb1:Below wr.heap.size wr W1:=by rw[<-hW1];exact(Below.refl _ wr).alloc (rM _) _
  have k1:Blk W1 wr.heap.size 53 #[.string z,.int .i64 p.val.kind,.int .i64 p.val.num,.string zt,.slice An p.val.nums.length cn,.slice At p.val.texts.length ct]:=by rw[<-hW1];exact Blk.new _ _ _
  have hBW:Below w.heap.size w W1:=HB.trans (hb1.mono HB.size)
  have hBr:B<=wr.heap.size:=rV hB HB.size
  have hvin:=fun(m:Nat)=>((vin_of (cn:=cn) (ct:=ct) hpok.val r1 r2).below (hb1.mono hBr)).below (below_drewN (Below.refl B W1) m)
  unfold ST at hvin;rw[hzt]at hvin
  have hcheck:=fun(m:Nat)=>check_any B _ p.val (W1.drewN m) (hvin m) (rV hBr hb1.size)
  have HCK:=ah hcheck;have hzd:z.data.toList=p.key:=by rw[<-hz]
  have hcall:=goodName_any z W1 (by rw[Lib.size_eq,hzd];exact hpok.key)
  rw[hzd]at hcall;have HW1:=ah hW1;have HBW:=ah hBW;have hd:=cells6 k1;have HD:=ah hd
  have HHP:Hid (∀q:Gr.P,∀m:Nat,m<n->ps[m]?=some q->W1.cell? ⟨b,o+m*6,none⟩=some (ST q.key)):=fun q m hm hq=>by
   obtain⟨b',o',_,_,_,_,he,hlt,⟨e0,-⟩,-⟩:=hLB.prop hq
   injection he with he
   injection he with he1 he2
   subst he1;subst he2;exact((hb1.mono hBr).cell (by exact hlt)).trans e0
  obtain⟨Nm,hNm⟩:=aj (Gr.goodName p.key);rw[hNm]at hcall;have HC:=ah hcall
  have HNM:=ah hNm;have HZD:=ah hzd;obtain⟨CV,hCV⟩:=aj (Cel.check p.val);rw[hCV]at HCK
  have HCV:=ah hCV
  clear hW1 hb1 k1 hBW hvin hcheck hcall hNm hCV hz hzt hzd hLB r1 r2 hBr hpok hbB hd
  go_upto_region 6 with fail
  rw[HW1.out];clear c0 c1 c2 c3 c4 c5 HW1;obtain⟨d0,d1,d2,d3,d4,d5⟩:=HD.out
  go_wp2_with fail;refine HC.mono ?_;rintro e w' ⟨rfl,rfl⟩;cases Nm with
  |false=>
   have hr:=first_stop HR.out HP.out HZ.out (e:=60) (by unfold Gr.propWrong;rw[HNM.out,rY rfl]) (by decide)
   have HRR:=ah hr;clear hr;go_wp2;go_ret;exact⟨by rw[HRR.out];rfl,HBW.out⟩
  |true=>
   have HCONT:=ah (fun(h:Gr.propWrong (Gr.prevAt Gr.P.key ps k) p=0)=>first_more HP.out HZ.out h)
   have HSTOP:=ah (fun(e:Nat) (h:Gr.propWrong (Gr.prevAt Gr.P.key ps k) p=e) (hne:e≠0)=>first_stop HR.out HP.out HZ.out h hne)
   by_cases h0:k=0
   ·have hk0:(k:Int)<=0:=by omega
    have tk:decide (0<k)=false:=rO (by omega)
    have hpw:Gr.propWrong (Gr.prevAt Gr.P.key ps k) p=CV:=by
     subst h0;unfold Gr.propWrong
     rw[HNM.out,rU (by decide),rU (by simp[Gr.prevAt]),HCV.out]
    have HPW:=ah hpw;clear h0 hpw
    go_upto_region 8 with fail
    go_quiet (fail)
    go_wp2_with fail;refine(HCK.out _).mono ?_;rintro e w4 ⟨rfl,hb4⟩
    have HB4:=ah (bel_next (below_drewN HBW.out nq) hb4);clear hb4;cases CV with
    |zero=>
     have HM:=ah (HCONT.out HPW.out);go_wp2
     go_roundg g
     case measure=>omega
     exact⟨k+1,int_eq (by omega),by have:=HK.out;omega,HB4.out,HM.out⟩
    |succ e=>
     have hr:=HSTOP.out (e+1) HPW.out (by omega)
     have HRR:=ah hr;have hne:(((e+1:Nat):Int) !=0)=true:=by rw[tH];omega
     clear hr;go_wp2;go_ret;exact⟨by rw[HRR.out];rfl,HB4.out⟩
   obtain⟨m,hm⟩: ∃m,k=m+1:=⟨k - 1,by omega⟩
   have tk:decide (0<k)=true:=rQ (by omega)
   have hkp:(0:Int)<k:=by omega
   have hsub:(k:Int) - 1=(m:Int):=by omega
   have hmn:(m:Int)<n:=by omega
   have hmn':m<n:=by omega
   obtain⟨q,hq⟩: ∃q,ps[m]?=some q:=⟨_,ay (by omega)⟩
   have e0:=HHP.out q m hmn' hq;unfold ST at e0
   obtain⟨zq,hzq⟩:=aj (⟨q.key.toArray⟩:ByteArray)
   have hzqd:zq.toList=q.key:=by rw[<-hzq,st_toList]
   rw[hzq]at e0;obtain⟨b1,hb1⟩:=aj (Op.bytesLess z.toList zq.toList)
   obtain⟨b2,hb2⟩:=aj (z.toList == zq.toList)
   have hb:decide (p.key<=q.key)=(b1 || b2):=by rw[<-hb1,<-hb2,leq_bytes,hzqd,Lib.toList_data,HZD.out]
   have hpw:Gr.propWrong (Gr.prevAt Gr.P.key ps k) p=if(b1 || b2)=true then 6 else CV:=by
    have hpv:Gr.prevAt Gr.P.key ps k=some q.key:=by rw[hm];show ps[m]?.map Gr.P.key=_;rw[hq];rfl
    unfold Gr.propWrong;rw[HNM.out,hpv,rU (by decide),<-hb,HCV.out]
    rfl
   have HPW:=ah hpw;clear h0 hpw hq hzq hzqd hb hm hmn'
   have HTL:=ah (show(b1 || b2)=true->R=6 from fun h=>HSTOP.out 6 (by rw[HPW.out,h];rfl) (by decide))
   cases b1 with
   |true=>
    have hr:=HTL.out rfl;have HRR:=ah hr;clear hr
    go_upto_region 8 with fail
    go_quiet (fail)
    go_wp2;go_ret;exact⟨by rw[HRR.out];rfl,below_drewN HBW.out _⟩
   |false=>
    cases b2 with
    |true=>
     have hr:=HTL.out rfl;have HRR:=ah hr;clear hr
     go_upto_region 8 with fail
     go_quiet (fail)
     go_wp2;go_ret;exact⟨by rw[HRR.out];rfl,below_drewN HBW.out _⟩
    |false=>
     go_upto_region 8 with fail
     go_quiet (fail)
     go_wp2_with fail;refine(HCK.out _).mono ?_;rintro e w4 ⟨rfl,hb4⟩
     have HB4:=ah (bel_next (below_drewN HBW.out nq) hb4);clear hb4;cases CV with
     |zero=>
      have HM:=ah (HCONT.out HPW.out);go_wp2
      go_roundg g
      case measure=>omega
      exact⟨k+1,int_eq (by omega),by have:=HK.out;omega,HB4.out,HM.out⟩
     |succ e=>
      have hr:=HSTOP.out (e+1) HPW.out (by omega)
      have HRR:=ah hr;have hne:(((e+1:Nat):Int) !=0)=true:=by rw[tH];omega
      clear hr;go_wp2;go_ret;exact⟨by rw[HRR.out];rfl,HB4.out⟩
def PairOwn (W:World) (B:Nat) (x:Gr.P×List Value):Prop:=
 ∃s t,x.2=[ST x.1.key,.int .i64 x.1.val.kind,.int .i64 x.1.val.num,ST x.1.val.text,s,t]/\W.ownsRow B 2 1 s x.1.val.nums.length (x.1.val.nums.map I64)/\W.ownsRow B 9 1 t x.1.val.texts.length (x.1.val.texts.map ST)
theorem PairOwn.row {w w':World} {B:Nat} {row:Option Nat} {x:Gr.P×List Value} (h:PairOwn w B x) (hg:w.grownBy w' row) (hty: ∀g c t fz,row=some g->w.heap[g]?=some (.cells c t fz)->t≠2/\t≠9):PairOwn w' B x:=by
 obtain⟨s,t,e,h1,h2⟩:=h
 exact⟨s,t,e,own_kept_ty h1 hg fun g c t' fz hr hc=>(hty g c t' fz hr hc).1,own_kept_ty h2 hg fun g c t' fz hr hc=>(hty g c t' fz hr hc).2⟩
theorem PairOwn.base {w:World} {B B':Nat} {x:Gr.P×List Value} (h:PairOwn w B x) (hb:B'<=B):PairOwn w B' x:=by
 obtain⟨s,t,e,h1,h2⟩:=h;exact⟨s,t,e,own_base h1 hb,own_base h2 hb⟩
def PropsOwn (T:TypeId) (W:World) (B:Nat) (v:Value) (ps:List Gr.P):Prop:=
 ∃l:List (Gr.P×List Value),l.map Prod.fst=ps/\(∀x∈l,PairOwn W B x)/\W.ownsRow B T 6 v ps.length (l.flatMap Prod.snd)
theorem PropsOwn.nil (T:TypeId) (W:World) (B:Nat):PropsOwn T W B (.slice none 0 0) []:=⟨[],rfl,by simp,World.ownsRow_nil _ _ _ _⟩
theorem PropsOwn.base {T:TypeId} {w:World} {B B':Nat} {v:Value} {ps:List Gr.P} (h:PropsOwn T w B v ps) (hb:B'<=B):PropsOwn T w B' v ps:=by
 obtain⟨l,e,h1,h2⟩:=h;exact⟨l,e,fun x hx=>(h1 x hx).base hb,own_base h2 hb⟩
theorem PropsOwn.put {T:TypeId} {w w':World} {B:Nat} {v v':Value} {ps:List Gr.P} {p:Gr.P} {cs:List Value} {l:List (Gr.P×List Value)} (hT:T≠2/\T≠9) (hl:l.map Prod.fst=ps) (h1: ∀x∈l,PairOwn w B x) (hp:PairOwn w B (p,cs))
  (hv:w.ownsRow B T 6 v ps.length (l.flatMap Prod.snd)) (hg:w.grownBy w' v.ownBlock) (hown:w'.ownsRow B T 6 v' (ps.length+1) (l.flatMap Prod.snd++cs)):PropsOwn T w' B v' (ps++[p]):=by
 have hty: ∀g c t fz,v.ownBlock=some g->w.heap[g]?=some (.cells c t fz)->t≠2/\t≠9:=fun g c t fz hr hc=>by
  obtain⟨-,c',hc'⟩:=own_blocks hv g hr;rw[hc']at hc;cases hc;exact hT
 refine⟨l++[(p,cs)],by rw[uf,hl];rfl,fun x hx=> ?_, ?_⟩
 ·rcases tZ.1 hx with hx|hx
  ·exact(h1 x hx).row hg hty
  rw[ug.1 hx];exact hp.row hg hty
 rw[rP,vM]
 simpa using hown
theorem step_call {ops:Array Oper} {o:Oper} {a:Act} {K:Act->World->Prop} {Q:Exit->Act->World->Prop} {E:Prop} (f:FuncId) {args:Array Value} {W:World} {R:Value->World->Prop} (hgd:o.guard=none)
  (he:(execOp a.eval o).run Tryz.prog W=.ok (.enter f args) W) (hc:Calls Tryz.prog f args W fun e w'=> ∃v,e=.returned v/\R v w') (k: ∀v w',R v w'->K (a.put o.dst v) w'):
  if Region.wanted o (yielded ops a.tmps)=true then Oper.wp Tryz.prog o a W K Q else E:=by
 have hw:Region.wanted o (yielded ops a.tmps)=true:=by simp[Region.wanted,hgd]
 rw[rY hw];unfold Oper.wp;rw[he];refine hc.mono ?_;rintro e w' ⟨v,rfl,h⟩;exact k v w' h
theorem calls_ex {f:FuncId} {args:Array Value} {W:World} {u:Value} {R:World->Prop} (h:Calls Tryz.prog f args W fun e w'=>e=.returned u/\R w'):Calls Tryz.prog f args W fun e w'=> ∃v,e=.returned v/\(v=u/\R w'):=
 h.mono fun _ _ ⟨he,hr⟩=>⟨u,he,rfl,hr⟩
theorem step_append_struct {ops:Array Oper} {o:Oper} {a:Act} {K:Act->World->Prop} {Q:Exit->Act->World->Prop} {E:Prop} (hgd:o.guard=none) (s x:Operand) (T e:TypeId) (z:Value) (sz bytes:Nat)
  (hT:Tryz.prog.underlying T=some (.slice e)) (hinfo:(Tryz.prog.info? e).map (fun i=>(i.zero,i.size,i.bytes))=some (some z,sz,bytes)) (hz:z.cells.size=sz) (hsz:0<sz) (hby:bytes<=200)
  (ho:o.op=.call {callee:=.builtin .append,args:= #[s,x],argTypes:= #[T,T]})
  (B:Nat) (v:Value) (n:Nat) (xs:List Value) (W:World) (hs:a.eval s=v) (h:W.ownsRow B e sz v n xs) (news:List Value) (cs:Array Value) (hcs:cs=news.toArray) (hnl:news.length=sz) (hu: ∀u∈news,u.oneCell'=true)
  (hx:a.eval x=.slice (some ⟨W.heap.size,0,none⟩) 1 1) (hl:n<536870912) (hB:B<=W.heap.size)
  (k: ∀v' w',w'.ownsRow B e sz v' (n+1) (xs++news)->W.grownBy w' v.ownBlock->(v'.ownBlock=v.ownBlock\/ ∃g,v'.ownBlock=some g/\W.heap.size<=g)->Below B W w'->K (a.put o.dst v') w'):
  if Region.wanted o (yielded ops a.tmps)=true then Oper.wp Tryz.prog o a (W.alloc (.cells cs e)) K Q else E:=by
 subst hcs;have hw:Region.wanted o (yielded ops a.tmps)=true:=by simp[Region.wanted,hgd]
 rw[rY hw];obtain⟨i0,hi,hz0,hz1,hz2⟩:=info_parts hinfo
 have hnews: ∀j u',news[j]?=some u'->(W.alloc (.cells news.toArray e)).cell? ((⟨W.heap.size,0,none⟩:Addr).add j)=some u':=cells_new _ _ _
 obtain⟨v',w',hrun,h2,h3,h4,h5⟩:=run_append_own_at (P:=Tryz.prog) (W.alloc (.cells news.toArray e)) B T o.type e i0 z sz bytes hT hi hz0 hz1 hz2 hz hsz v n xs (World.ownsRow.alloc h _) ⟨W.heap.size,0,none⟩ 1 1 news (by omega) hnews hu (by unfold maxLen;omega) (by
  have:(n+1)*bytes<=536870912*200:=yh (by omega) hby
  omega) (by simp;omega)
 unfold Oper.wp execOp
 simp only[ho,resolve,invoke,builtin,Sem.run_bind,Sem.run_pure,Result.andThen_ok,zF,tV,uT,hs,hx,hrun]
 refine k v' w' h2 (only_trans (only_alloc (only_refl W _) _) h3) (h5.imp id (fun h=>⟨_,h,by simp⟩)) ?_
 exact((Below.refl B W).alloc hB _).grown h3 (by simp;omega) (fun j e=>(World.ownsRow.lt h j e).1)
theorem PropsOwn.form {T:TypeId} {W:World} {B:Nat} {v:Value} {ps:List Gr.P} (h:PropsOwn T W B v ps): ∃A c,v=.slice A ps.length c:=by
 obtain⟨l,-,-,h3⟩:=h;exact own_form h3
theorem PropsOwn.row {T:TypeId} {w w':World} {B:Nat} {row:Option Nat} {v:Value} {ps:List Gr.P} (h:PropsOwn T w B v ps) (hg:w.grownBy w' row) (hty: ∀g c t fz,row=some g->w.heap[g]?=some (.cells c t fz)->t≠2/\t≠9/\t≠T):PropsOwn T w' B v ps:=by
 obtain⟨l,e,h1,h2⟩:=h
 exact⟨l,e,fun x hx=>(h1 x hx).row hg fun g c t fz hr hc=>⟨(hty g c t fz hr hc).1,(hty g c t fz hr hc).2.1⟩,own_kept_ty h2 hg fun g c t fz hr hc=>(hty g c t fz hr hc).2.2⟩
theorem PropsOwn.below {T:TypeId} {w w':World} {B:Nat} {v:Value} {ps:List Gr.P} (h:PropsOwn T w B v ps) (hb:Below w.heap.size w w'):PropsOwn T w' B v ps:=h.row (only_of_below hb none) (fun g c t fz hr=>by cases hr)
end Go.Proofs.YtanlehkalkafdaaGreatDoor
namespace Go.Proofs.YtanlehkalkafdaaGreatDoor
open Go.RowKit Go.Maps
theorem lawI:Keyed Tryz.prog 3:=int_keyed Tryz.underlying3
theorem lawS:Keyed Tryz.prog 9:=string_keyed Tryz.underlying9
theorem zeroI (w:World):(zeroValue 3).run Tryz.prog w=.ok (.int .i64 0) w:=by kernel_rfl
abbrev ZL:DataW Unit:=.lit (.int .i64 0)
theorem wf64 {n:Int} (h:Cel.In64 n):(Lit.int .i64 n).wf=true:=by
 unfold Cel.In64 at h;simp only[Lit.wf,uy,tX];exact h
structure CntI (w:World) (b:Nat) (l:List Int):Prop where
 ex: ∃(n:Nat) (D:DataW Unit),n<=l.length/\w.ownsMap Tryz.prog 3 (plainElem Tryz.prog 3) b n D/\IsMap D/\ ∀i,Cel.In64 i->D.atKey (.int .i64 i) ZL=.lit (.int .i64 (l.count i:Nat))
structure CntS (w:World) (b:Nat) (l:List (List UInt8)):Prop where
 ex: ∃(n:Nat) (D:DataW Unit),n<=l.length/\w.ownsMap Tryz.prog 9 (plainElem Tryz.prog 3) b n D/\Tidy D/\(∀t,D.atKey (.string t) ZL=.lit (.int .i64 (l.count t:Nat)))/\ ∀t,has D (.string t)=decide (t∈l)
section
variable {w w':World} {b:Nat}
theorem CntI.made (w:World):CntI (w.alloc (.map #[] 0)) w.heap.size []:=⟨0,.map [],rM _,World.ownsMap_made _ _ _ _,isMap_empty,fun i _=>rfl⟩
theorem CntS.made (w:World):CntS (w.alloc (.map #[] 0)) w.heap.size []:=⟨0,.map [],rM _,World.ownsMap_made _ _ _ _,tidy_empty,fun t=>rfl,fun t=>rfl⟩
theorem CntI.lt {l:List Int} (h:CntI w b l):b<w.heap.size:=by obtain⟨n,D,-,h,-⟩:=h.ex;exact h.lt
theorem CntI.kept {row:Option Nat} {l:List Int} (h:CntI w b l) (hg:w.grownBy w' row) (hne:some b≠row):CntI w' b l:=by obtain⟨n,D,h1,h,h2⟩:=h.ex;exact⟨n,D,h1,h.kept hg hne,h2⟩
theorem CntS.kept {row:Option Nat} {l:List (List UInt8)} (h:CntS w b l) (hg:w.grownBy w' row) (hne:some b≠row):CntS w' b l:=by obtain⟨n,D,h1,h,h2⟩:=h.ex;exact⟨n,D,h1,h.kept hg hne,h2⟩
theorem CntI.below {l:List Int} (h:CntI w b l) (hb:Below w.heap.size w w'):CntI w' b l:=h.kept (only_of_below hb none) (by simp)
theorem CntS.below {l:List (List UInt8)} (h:CntS w b l) (hb:Below w.heap.size w w'):CntS w' b l:=h.kept (only_of_below hb none) (by simp)
end
theorem count_app {α:Type} [BEq α] [LawfulBEq α] [DecidableEq α] (l:List α) (x i:α):(l++[x]).count i=l.count i+if x=i then 1 else 0:=by
 rw[Aa,List.count_singleton];by_cases h:x=i<;>simp[h]
theorem CntI.look {w:World} {b:Nat} {l:List Int} (h:CntI w b l) {t:TypeId} (ht:Tryz.prog.underlying t=some (.map 3 3)) {i:Int} (hi:Cel.In64 i):(Instr.lookup t (.map (some b)) (.int .i64 i) false).run Tryz.prog w=.ok (.int .i64 (l.count i:Nat)) w:=by
 obtain⟨n,D,-,hown,-,hc⟩:=h.ex
 obtain⟨c,hrun,hat,-⟩:=hown.lookup_int lawI ht Tryz.underlying3 (zeroI _) (keyOf_int_mk Tryz.underlying3 (wf64 hi))
 rw[hc i hi]at hat
 have he:c=((l.count i:Nat):Int):=by injection hat with hat;injection hat with _ hat;exact hat.symm
 exact he▸hrun
theorem CntS.look {w:World} {b:Nat} {l:List (List UInt8)} (h:CntS w b l) {t:TypeId} (ht:Tryz.prog.underlying t=some (.map 9 3)) {s:ByteArray} (hs:s.size<=maxLen):(Instr.lookup t (.map (some b)) (.string s) false).run Tryz.prog w=.ok (.int .i64 (l.count s.data.toList:Nat)) w:=by
 obtain⟨n,D,-,hown,-,hc,-⟩:=h.ex
 obtain⟨c,hrun,hat,-⟩:=hown.lookup_int lawS ht Tryz.underlying3 (zeroI _) (Go.WideMaps.keyOf_string_mk Tryz.underlying9 hs)
 rw[hc]at hat
 have he:c=((l.count s.data.toList:Nat):Int):=by injection hat with hat;injection hat with _ hat;exact hat.symm
 exact he▸hrun
section
variable {P:Program} (w:World) {ops:Array Oper} {rest:List Oper} {o:Oper} {a:Act} {Q:Exit->Act->World->Prop} (hg:o.guard=none)
include hg
theorem wpList_put_I {l:List Int} {b:Nat} (h:CntI w b l) (hl:l.length<1152921504606846976) (m x v:Operand) (t:TypeId) (hop:o.op=Op.mapUpdate t m x v) (ht:Tryz.prog.underlying t=some (.map 3 3)) (hm:a.eval m=.map (some b)) (i:Int) (hi:Cel.In64 i) (hx:a.eval x=.int .i64 i) (hv:a.eval v=.int .i64 ((l.count i:Nat)+1:Int))
  (hK: ∀w',CntI w' b (l++[i])->w.grownBy w' (some b)->wpList Tryz.prog ops Q rest (a.put o.dst undef) w'):wpList Tryz.prog ops Q (o :: rest) a w:=by
 obtain⟨n,D,hn,hown,hD,hc⟩:=h.ex;have hcl:=vP (a:=i) (l:=l)
 refine wpList_mapUpdate_own w hg m x v t hop 3 3 lawI ht _ b n D hm hown (by unfold maxLen;omega) _ _ _ hx hv (keyOf_int_mk Tryz.underlying3 (wf64 hi)) _ [] (plainElem_int Tryz.underlying3 (wf64 (by unfold Cel.In64;omega))) ?_
 intro w1 hown1 hgrow
 refine hK w1 ⟨n+1,_,by rw[rP];simp;omega,hown1,IsMap.put hD (.int .i64 i) _,fun j hj=> ?_⟩ hgrow
 rw[count_app];by_cases e:i=j
 ·subst e
  rw[atKey_put_same hD (k:=.int .i64 i) trivial,rY rfl];simp
 rw[atKey_put_other (k':=.int .i64 j) (by intro h;cases h;exact e rfl),hc j hj,rU e,vw]
theorem wpList_put_S {l:List (List UInt8)} {b:Nat} (h:CntS w b l) (hl:l.length<1152921504606846976) (m x v:Operand) (t:TypeId) (hop:o.op=Op.mapUpdate t m x v) (ht:Tryz.prog.underlying t=some (.map 9 3)) (hm:a.eval m=.map (some b)) (s:ByteArray) (hs:s.size<=maxLen) (hx:a.eval x=.string s) (hv:a.eval v=.int .i64 ((l.count s.data.toList:Nat)+1:Int))
  (hK: ∀w',CntS w' b (l++[s.data.toList])->w.grownBy w' (some b)->wpList Tryz.prog ops Q rest (a.put o.dst undef) w'):wpList Tryz.prog ops Q (o :: rest) a w:=by
 obtain⟨n,D,hn,hown,hD,hc,hh⟩:=h.ex;have hcl:=vP (a:=s.data.toList) (l:=l)
 refine wpList_mapUpdate_own w hg m x v t hop 9 3 lawS ht _ b n D hm hown (by unfold maxLen;omega) _ _ _ hx hv (Go.WideMaps.keyOf_string_mk Tryz.underlying9 hs) _ [] (plainElem_int Tryz.underlying3 (wf64 (by unfold Cel.In64;omega))) ?_
 intro w1 hown1 hgrow
 refine hK w1 ⟨n+1,_,by rw[rP];simp;omega,hown1,Tidy.put hD (k:=.string s.data.toList) trivial _,fun j=> ?_,fun j=> ?_⟩ hgrow
 ·rw[count_app]
  by_cases e:s.data.toList=j
  ·subst e
   rw[atKey_put_same hD.isMap (k:=.string s.data.toList) trivial,rY rfl];simp
  rw[atKey_put_other (k':=.string j) (by intro h;cases h;exact e rfl),hc j,rU e,vw]
 by_cases e:s.data.toList=j
 ·subst e
  rw[has_put_same hD.isMap (k:=.string s.data.toList) trivial];simp
 rw[has_put_other (k':=.string j) (by intro h;cases h;exact e rfl),hh j]
 simp[Ne.symm e]
end
theorem Same1.cntS {T n₁ b:Nat} {A B:World} {l:List (List UInt8)} (h:Same1 T n₁ A B) (hc:CntS A b l):CntS B b l:=by
 obtain⟨n,D,h1,⟨es,clock,hb,F,hs,hD⟩,h2⟩:=hc.ex
 exact⟨n,D,h1,⟨es,clock,h.block b _ hb (fun r e=>by cases e) (fun c fz e=>by cases e),F,hs,hD⟩,h2⟩
section
variable {F:Fence} {nF:Nat} (w:World) {ops:Array Oper} {rest:List Oper} {o:Oper} {a:Act} {Q:Exit->Act->World->Prop} (hg:o.guard=none)
include hg
theorem wpListIn_put_S {l:List (List UInt8)} {b:Nat} (h:CntS w b l) (hl:l.length<1152921504606846976) (m x v:Operand) (t:TypeId) (hop:o.op=Op.mapUpdate t m x v) (ht:Tryz.prog.underlying t=some (.map 9 3)) (hm:a.eval m=.map (some b)) (s:ByteArray) (hs:s.size<=maxLen) (hx:a.eval x=.string s) (hv:a.eval v=.int .i64 ((l.count s.data.toList:Nat)+1:Int))
  (hK: ∀w',CntS w' b (l++[s.data.toList])->w.grownBy w' (some b)->wpListIn F nF Tryz.prog ops Q rest (a.put o.dst undef) w'):wpListIn F nF Tryz.prog ops Q (o :: rest) a w:=by
 obtain⟨n,D,hn,hown,hD,hc,hh⟩:=h.ex;have hcl:=vP (a:=s.data.toList) (l:=l)
 refine wpListIn_mapUpdate_own w hg m x v t hop 9 3 lawS ht _ b n D hm hown (by unfold maxLen;omega) _ _ _ hx hv (Go.WideMaps.keyOf_string_mk Tryz.underlying9 hs) _ [] (plainElem_int Tryz.underlying3 (wf64 (by unfold Cel.In64;omega))) ?_
 intro w1 hown1 hgrow
 refine hK w1 ⟨n+1,_,by rw[rP];simp;omega,hown1,Tidy.put hD (k:=.string s.data.toList) trivial _,fun j=> ?_,fun j=> ?_⟩ hgrow
 ·rw[count_app]
  by_cases e:s.data.toList=j
  ·subst e
   rw[atKey_put_same hD.isMap (k:=.string s.data.toList) trivial,rY rfl];simp
  rw[atKey_put_other (k':=.string j) (by intro h;cases h;exact e rfl),hc j,rU e,vw]
 by_cases e:s.data.toList=j
 ·subst e
  rw[has_put_same hD.isMap (k:=.string s.data.toList) trivial];simp
 rw[has_put_other (k':=.string j) (by intro h;cases h;exact e rfl),hh j]
 simp[Ne.symm e]
end
end Go.Proofs.YtanlehkalkafdaaGreatDoor
namespace Go.Proofs.YtanlehkalkafdaaGreatDoor
open Go.RowKit
structure Kp (base:Nat) (w w':World):Prop where
 bel:Below base w w'
 keep: ∀(b:Nat) (c:Array Value) (t:TypeId) (fz:Nat×Nat),w.heap[b]?=some (.cells c t fz)->t≠25->t≠48->t≠55->w'.heap[b]?=some (.cells c t fz)
theorem own_kp {base B e size n:Nat} {v:Value} {xs:List Value} {w w':World} (h:w.ownsRow B e size v n xs) (hk:Kp base w w') (h1:e≠25) (h2:e≠48) (h3:e≠55):w'.ownsRow B e size v n xs:=by
 obtain⟨hl,h⟩:=h;refine⟨hl, ?_⟩
 rcases h with h|⟨g,cap,cur,hv,hb,hc,hr⟩
 ·exact .inl h
 exact .inr ⟨g,cap,cur,hv,hb,hk.keep _ _ _ _ hc h1 h2 h3,hr⟩
theorem PairOwn.kp {base B:Nat} {x:Gr.P×List Value} {w w':World} (h:PairOwn w B x) (hk:Kp base w w'):PairOwn w' B x:=by
 obtain⟨s,t,e,h1,h2⟩:=h
 exact⟨s,t,e,own_kp h1 hk (by decide) (by decide) (by decide),own_kp h2 hk (by decide) (by decide) (by decide)⟩
theorem PropsOwn.kp {T:TypeId} {base B:Nat} {v:Value} {ps:List Gr.P} {w w':World} (h:PropsOwn T w B v ps) (hk:Kp base w w') (h1:T≠25) (h2:T≠48) (h3:T≠55):PropsOwn T w' B v ps:=by
 obtain⟨l,e,hx,ho⟩:=h;exact⟨l,e,fun x hm=>(hx x hm).kp hk,own_kp ho hk h1 h2 h3⟩
theorem info_prop:(Tryz.prog.info? 53).map (fun i=>(i.zero,i.size,i.bytes))=some (some (.agg #[.string ⟨#[]⟩,.int .i64 0,.int .i64 0,.string ⟨#[]⟩,.slice none 0 0,.slice none 0 0]),6,96):=by kernel_rfl
theorem CntI.isMap {w:World} {b:Nat} {l:List Int} (h:CntI w b l): ∀c t fz,w.heap[b]?≠some (.cells c t fz):=fun c t fz e=>by
 obtain⟨n,D,-,⟨es,cl,h1,-⟩,-⟩:=h.ex;rw[h1]at e;cases e
def NodeOwn (W:World) (B:Nat) (x:Gr.N×List Value):Prop:=
 ∃sl sp,x.2=[.int .i64 x.1.id,sl,sp]/\W.ownsRow B 9 1 sl x.1.labels.length (x.1.labels.map ST)/\PropsOwn 53 W B sp x.1.props
def RelOwn (W:World) (B:Nat) (x:Gr.R×List Value):Prop:=
 ∃sp,x.2=[.int .i64 x.1.id,ST x.1.type,.int .i64 x.1.src,.int .i64 x.1.dst,sp]/\PropsOwn 53 W B sp x.1.props
theorem NodeOwn.kp {base B:Nat} {x:Gr.N×List Value} {w w':World} (h:NodeOwn w B x) (hk:Kp base w w'):NodeOwn w' B x:=by
 obtain⟨s,t,e,h1,h2⟩:=h
 exact⟨s,t,e,own_kp h1 hk (by decide) (by decide) (by decide),h2.kp hk (by decide) (by decide) (by decide)⟩
theorem RelOwn.kp {base B:Nat} {x:Gr.R×List Value} {w w':World} (h:RelOwn w B x) (hk:Kp base w w'):RelOwn w' B x:=by
 obtain⟨t,e,h2⟩:=h;exact⟨t,e,h2.kp hk (by decide) (by decide) (by decide)⟩
theorem own_ne_map {base e sz n m:Nat} {v:Value} {xs:List Value} {l:List Int} {w:World} (h:w.ownsRow base e sz v n xs) (hm:CntI w m l):some m≠v.ownBlock:=fun e'=>by
 obtain⟨-,c,hc⟩:=own_blocks h m e'.symm;exact hm.isMap _ _ _ hc
theorem own_ne_blk {base e e' sz n b:Nat} {v:Value} {xs:List Value} {cs:Array Value} {w:World} (h:w.ownsRow base e sz v n xs) (hm:Blk w b e' cs) (hne:e'≠e):some b≠v.ownBlock:=fun x=>by
 obtain⟨-,c,hc⟩:=own_blocks h b x.symm;have:=hm.symm.trans hc;cases this;exact hne rfl
theorem own_ty {w w':World} {base e e' size n size' n':Nat} {v v':Value} {xs xs':List Value} (h:w.ownsRow base e size v n xs) (hv:w.ownsRow base e' size' v' n' xs') (hg:w.grownBy w' v'.ownBlock) (hne:e'≠e):w'.ownsRow base e size v n xs:=
 own_kept_ty h hg fun g c t fz hr hc=>by
  obtain⟨-,c',hc'⟩:=own_blocks hv g hr;rw[hc']at hc;cases hc;exact hne
theorem own_setb {w:World} {base e e' size n b i:Nat} {v u:Value} {xs:List Value} {cs:Array Value} (h:w.ownsRow base e size v n xs) (hb:Blk w b e' cs) (hne:e'≠e):(w.setCell ⟨b,i,none⟩ u).ownsRow base e size v n xs:=
 own_kept_ty h (grownBy_set w ⟨b,i,none⟩ u) fun g c t fz hr hc=>by
  cases hr;have:=hb.symm.trans hc;cases this;exact hne
theorem info_node:(Tryz.prog.info? 48).map (fun i=>(i.zero,i.size,i.bytes))=some (some (.agg #[.int .i64 0,.slice none 0 0,.slice none 0 0]),3,56):=by kernel_rfl
theorem info_rel:(Tryz.prog.info? 55).map (fun i=>(i.zero,i.size,i.bytes))=some (some (.agg #[.int .i64 0,.string ⟨#[]⟩,.int .i64 0,.int .i64 0,.slice none 0 0]),5,64):=by kernel_rfl
end Go.Proofs.YtanlehkalkafdaaGreatDoor
namespace Go.Proofs.YtanlehkalkafdaaGreatDoor.Tb
open Go
abbrev L:=List UInt8
def ID:L:=[58,73,68]
def LABEL:L:=[58,76,65,66,69,76]
def START:L:=[58,83,84,65,82,84]
def ENDS:L:=[58,69,78,68]
def TYPE:L:=[58,84,89,80,69]
def headN:List L:=[ID,LABEL]
def headR:List L:=[ID,START,ENDS,TYPE]
def keysOf (ps:List Gr.P):List L:=Gr.canonLabels (Gr.dedup (ps.map Gr.P.key))
def fieldOf (ps:List Gr.P) (k:L):L:=
 match ps.find? (fun p=>decide (p.key=k)) with
 |none=> []
 |some p=>Cel.print p.val
def joinS:List L->L
 |[]=> []
 |[a]=>a
 |a :: b :: r=>a++59 :: joinS (b :: r)
def nodeRow (keys:List L) (n:Gr.N):List L:=Lib.itoa n.id :: joinS n.labels :: keys.map (fieldOf n.props)
def relRow (keys:List L) (r:Gr.R):List L:=Lib.itoa r.id :: Lib.itoa r.src :: Lib.itoa r.dst :: r.type :: keys.map (fieldOf r.props)
def keysN (g:Gr.G):List L:=keysOf (g.nodes.flatMap Gr.N.props)
def keysR (g:Gr.G):List L:=keysOf (g.rels.flatMap Gr.R.props)
def rowsN (g:Gr.G):List (List L):=(headN++keysN g) :: g.nodes.map (nodeRow (keysN g))
def rowsR (g:Gr.G):List (List L):=(headR++keysR g) :: g.rels.map (relRow (keysR g))
def print (g:Gr.G):L×L:=((rowsN g).flatMap Csv.printRow,(rowsR g).flatMap Csv.printRow)
def printR (g:Gr.G):(L×L)×Nat:=if(Gr.check g).1=0 then(print g,0) else(([],[]),(Gr.check g).1)
def headP (want:List L):List (List L)->Option (List L)
 |[]=>none
 |h :: _=>if h.take want.length=want/\(h.drop want.length).all Gr.goodName=true/\(h.drop want.length).Nodup then some (h.drop want.length) else none
def known (most:Int) (s:L):Option Int:=if(Num.parseInt s).2=0/\0<=(Num.parseInt s).1/\(Num.parseInt s).1<most then some (Num.parseInt s).1 else none
def splitS:L->List L
 |[]=> [[]]
 |c :: r=>
  if c=59 then[] :: splitS r else
  match splitS r with
  |[]=> [[c]]
  |a :: t=>(c :: a) :: t
def namesWrong:List L->List L->Nat
 |_,[]=>0
 |seen,l :: r=>if Gr.goodName l=false then 60 else if l∈seen then 7 else namesWrong (seen++[l]) r
def labelsP (s:L):List L×Nat:=if s=[] then([],0) else if namesWrong [] (splitS s)=0 then(splitS s,0) else([],namesWrong [] (splitS s))
def propsP:List L->List L->List Gr.P×Nat
 |k :: ks,f :: fs=>
  if f=[] then propsP ks fs else
  if(Cel.parse f).2≠0 then([],(Cel.parse f).2) else
  if(propsP ks fs).2≠0 then([],(propsP ks fs).2) else(⟨k,(Cel.parse f).1⟩ ::(propsP ks fs).1,0)
 |_,_=>([],0)
def nodesP (keys:List L) (w:Nat):List (List L)->List Gr.N->List Gr.N×Nat
 |[],acc=>(acc,0)
 |row :: r,acc=>
  if row.length≠w then([],231) else
  match known 1024 (row.getD 0 []) with
  |none=>([],61)
  |some n=>
   if n∈acc.map Gr.N.id then([],7) else
   if(labelsP (row.getD 1 [])).2≠0 then([],(labelsP (row.getD 1 [])).2) else
   if(propsP keys (row.drop 2)).2≠0 then([],(propsP keys (row.drop 2)).2) else
   nodesP keys w r (acc++[⟨n,(labelsP (row.getD 1 [])).1,(propsP keys (row.drop 2)).1⟩])
def endP (ids:List Int) (s:L):Option Int:=
 match known 1024 s with
 |none=>none
 |some n=>if n∈ids then some n else none
def relsP (keys:List L) (w:Nat) (ids:List Int):List (List L)->List Gr.R->List Gr.R×Nat
 |[],acc=>(acc,0)
 |row :: r,acc=>
  if row.length≠w then([],231) else
  match known 2048 (row.getD 0 []) with
  |none=>([],62)
  |some n=>
   if n∈acc.map Gr.R.id then([],7) else
   match endP ids (row.getD 1 []),endP ids (row.getD 2 []) with
   |some s,some d=>
    if Gr.goodName (row.getD 3 [])=false then([],60) else
    if(propsP keys (row.drop 4)).2≠0 then([],(propsP keys (row.drop 4)).2) else
    relsP keys w ids r (acc++[⟨n,row.getD 3 [],s,d,(propsP keys (row.drop 4)).1⟩])
   |_,_=>([],65)
def nodesOf (rows:List (List L)):List Gr.N×Nat:=
 match headP headN rows with
 |none=>([],230)
 |some ks=>nodesP ks (2+ks.length) rows.tail []
def relsOf (ids:List Int) (rows:List (List L)):List Gr.R×Nat:=
 match headP headR rows with
 |none=>([],230)
 |some ks=>relsP ks (4+ks.length) ids rows.tail []
def parse (a b:L):Gr.G×Nat:=
 if 16777216<a.length\/16777216<b.length then(Gr.G0,1) else
 if(Csv.rowsOf a).2≠0 then(Gr.G0,(Csv.rowsOf a).2) else
 if(Csv.rowsOf b).2≠0 then(Gr.G0,(Csv.rowsOf b).2) else
 if(nodesOf (Csv.rowsOf a).1).2≠0 then(Gr.G0,(nodesOf (Csv.rowsOf a).1).2) else
 if(relsOf ((nodesOf (Csv.rowsOf a).1).1.map Gr.N.id) (Csv.rowsOf b).1).2≠0 then(Gr.G0,(relsOf ((nodesOf (Csv.rowsOf a).1).1.map Gr.N.id) (Csv.rowsOf b).1).2) else
 if(Gr.check (Gr.canon ⟨(nodesOf (Csv.rowsOf a).1).1,(relsOf ((nodesOf (Csv.rowsOf a).1).1.map Gr.N.id) (Csv.rowsOf b).1).1⟩)).1≠0 then(Gr.G0,(Gr.check (Gr.canon ⟨(nodesOf (Csv.rowsOf a).1).1,(relsOf ((nodesOf (Csv.rowsOf a).1).1.map Gr.N.id) (Csv.rowsOf b).1).1⟩)).1) else
 (Gr.canon ⟨(nodesOf (Csv.rowsOf a).1).1,(relsOf ((nodesOf (Csv.rowsOf a).1).1.map Gr.N.id) (Csv.rowsOf b).1).1⟩,0)
theorem known_of {n m:Int} (h0:0<=n) (h1:n<m) (hm:m<=2048):known m (Lib.itoa n)=some n:=by
 have hp:=Num.parse_itoa n (by omega) (by omega)
 unfold known;rw[hp,rY ⟨rfl,h0,h1⟩]
theorem split_ne (s:L):splitS s≠ []:=by
 induction s with
 |nil=>simp[splitS]
 |cons c r ih=>
  rw[splitS]
  split
  ·simp
  split<;>simp
theorem split_app: ∀(a r:L),(∀x∈a,x≠59)->splitS (a++59 :: r)=a :: splitS r
 |[],r,_=>by rw[tY,splitS,rY rfl]
 |c :: a,r,h=>by
  rw[uG,splitS,rU (h c (by simp)),split_app a r (fun x hx=>h x (by simp[hx]))]
theorem split_one: ∀a:L,(∀x∈a,x≠59)->splitS a=[a]
 |[],_=>rfl
 |c :: a,h=>by rw[splitS,rU (h c (by simp)),split_one a (fun x hx=>h x (by simp[hx]))]
theorem split_join: ∀ls:List L,ls≠ []->(∀l∈ls,∀x∈l,x≠59)->splitS (joinS ls)=ls
 |[],h,_=>absurd rfl h
 |[a],_,h=>by rw[joinS,split_one a (h a (by simp))]
 |a :: b :: r,_,h=>by rw[joinS,split_app a _ (h a (by simp)),split_join (b :: r) (by simp) (fun l hl=>h l (by simp[hl]))]
theorem join_nil {ls:List L} (h: ∀l∈ls,l≠ []):joinS ls=[]↔ls=[]:=by
 match ls with
 |[]=>simp[joinS]
 |[a]=>simp[joinS,h a (by simp)]
 |a :: b :: r=>simp[joinS]
theorem good_no {l:L} (h:Gr.goodName l=true):l≠ []/\ ∀x∈l,x≠59:=by
 unfold Gr.goodName at h;simp only[uy,tX,wC]at h;refine⟨h.1.1.1,fun x hx e=> ?_⟩
 have:=h.2 x hx;rw[e]at this;exact absurd this (by decide)
theorem names_zero: ∀(ls seen:List L),(∀l∈ls,Gr.goodName l=true)->(seen++ls).Nodup->namesWrong seen ls=0
 |[],_,_,_=>rfl
 |l :: ls,seen,hn,hd=>by
  rw[namesWrong,rU (by rw[hn l (by simp)];decide),rU,names_zero ls _ (fun x hx=>hn x (uQ _ hx)) (by rw[sV];exact hd)]
  rw[xR]at hd;intro hx;exact hd.2.2 l hx l (by simp) rfl
theorem labels_of {ls:List L} (hn: ∀l∈ls,Gr.goodName l=true) (hd:ls.Nodup):labelsP (joinS ls)=(ls,0):=by
 unfold labelsP;by_cases h:ls=[]
 ·subst h;rfl
 rw[rU (fun e=>h ((join_nil fun l hl=>(good_no (hn l hl)).1).1 e)),split_join ls h fun l hl=>(good_no (hn l hl)).2,rY (names_zero ls [] hn (by simpa using hd))]
theorem head_of {want ks:List L} {rows:List (List L)} (hg: ∀k∈ks,Gr.goodName k=true) (hd:ks.Nodup):headP want ((want++ks) :: rows)=some ks:=by
 unfold headP;simp only[xO,yg];rw[rY ⟨trivial,wC.2 hg,hd⟩]
theorem cel_ne (v:Cel.V):Cel.print v≠ []:=by
 unfold Cel.print Cel.letter
 split<;>simp
theorem props_go (ps:List Gr.P) (hv: ∀p∈ps,Cy.PGood p): ∀ks:List L,propsP ks (ks.map (fieldOf ps))=(ks.filterMap fun k=>ps.find? fun p=>decide (p.key=k),0)
 |[]=>rfl
 |k :: ks=>by
  rw[tV,propsP,props_go ps hv ks,Bz];unfold fieldOf
  cases hf:ps.find? (fun p=>decide (p.key=k)) with
  |none=>rw[rY rfl]
  |some p=>
   have hk:p.key=k:=by have:=List.find?_some hf;simpa using this
   have hp:=hv p (zH hf);simp only
   rw[rU (cel_ne _),Cel.there hp.val.ck hp.val.num hp.val.nums,rU (by simp),rU (by simp)]
   rw[<-hk]
theorem keys_mem {ps:List Gr.P} {k:L}:k∈keysOf ps↔k∈ps.map Gr.P.key:=by
 unfold keysOf Gr.canonLabels Gr.sortBy;rw[(vG _ _).mem_iff,Gr.mem_dedup]
theorem keys_nodup (ps:List Gr.P):(keysOf ps).Nodup:=by
 unfold keysOf Gr.canonLabels Gr.sortBy;exact(vG _ _).nodup_iff.2 (Gr.nodup_dedup _)
theorem keys_sorted (ps:List Gr.P):(keysOf ps).Pairwise fun a b=>decide (a<=b)=true:=by
 unfold keysOf Gr.canonLabels Gr.sortBy
 exact zU (le:=fun a b:L=>decide (a<=b)) (fun a b c h k=>rQ (BZ (sQ h) (sQ k))) (fun a b=>by simp only[wu,tX];exact CQ a b) _
theorem nodup_map {α β:Type} {f:α->β} {l:List α} (h:(l.map f).Nodup):l.Nodup:=(yG.1 h).imp fun h e=>h (by rw[e])
theorem pick_sub (ps:List Gr.P): ∀ks:List L,((ks.filterMap fun k=>ps.find? fun p=>decide (p.key=k)).map Gr.P.key).Sublist ks
 |[]=>List.Sublist.refl _
 |k :: ks=>by
  rw[Bz];cases hf:ps.find? (fun p=>decide (p.key=k)) with
  |none=>exact(pick_sub ps ks).cons _
  |some p=>
   have hk:p.key=k:=by have:=List.find?_some hf;simpa using this
   simp only[tV,hk];exact(pick_sub ps ks).cons_cons _
theorem find_own {ps:List Gr.P} (hd:(ps.map Gr.P.key).Nodup) {p:Gr.P} (hp:p∈ps):ps.find? (fun q=>decide (q.key=p.key))=some p:=by
 induction ps with
 |nil=>cases hp
 |cons a r ih=>
  rw[tV,CJ]at hd;rw[List.find?_cons]
  rcases uD.1 hp with e|h
  ·subst e;simp
  have:a.key≠p.key:=fun e=>hd.1 (e▸uX (f:=Gr.P.key) h)
  rw[rO this];exact ih hd.2 h
theorem pick_eq {ps:List Gr.P} {ks:List L} (hu:ps.Pairwise fun a b=>a.key<b.key) (hd:(ps.map Gr.P.key).Nodup) (hk:ks.Nodup) (hs:ks.Pairwise fun a b=>decide (a<=b)=true) (hm: ∀p∈ps,p.key∈ks):(ks.filterMap fun k=>ps.find? fun p=>decide (p.key=k))=ps:=by
 have hsub:=pick_sub ps ks
 have hmem: ∀x,x∈(ks.filterMap fun k=>ps.find? fun p=>decide (p.key=k))↔x∈ps:=fun x=>by
  rw[List.mem_filterMap]
  constructor
  ·rintro⟨k,_,h⟩
   exact zH h
  intro h;exact⟨x.key,hm x h,find_own hd h⟩
 have hn:(ks.filterMap fun k=>ps.find? fun p=>decide (p.key=k)).Nodup:=nodup_map (hsub.nodup hk)
 have hn2:ps.Nodup:=nodup_map hd
 refine((yw hn hn2).2 hmem).eq_of_pairwise (le:=fun a b=>decide (a.key<=b.key)=true) (fun x y hx hy h1 h2=> ?_) (yG.1 (hs.sublist hsub)) (hu.imp fun h=>rQ (zM h))
 have e:x.key=y.key:=Cj (sQ h1) (sQ h2);have h1:=find_own hd ((hmem x).1 hx)
 rw[e,find_own hd hy]at h1;exact(tN h1).symm
theorem props_of {ps all:List Gr.P} (hg: ∀p∈ps,Cy.PGood p) (hu:ps.Pairwise fun a b=>a.key<b.key) (hd:(ps.map Gr.P.key).Nodup) (hm: ∀p∈ps,p∈all):propsP (keysOf all) ((keysOf all).map (fieldOf ps))=(ps,0):=by
 rw[props_go ps hg,pick_eq hu hd (keys_nodup all) (keys_sorted all) fun p hp=>keys_mem.2 (uX (f:=Gr.P.key) (hm p hp))]
theorem nodes_go {g:Gr.G} (h:Cy.Fine g): ∀(ns acc:List Gr.N),acc++ns=g.nodes->nodesP (keysN g) (2+(keysN g).length) (ns.map (nodeRow (keysN g))) acc=(g.nodes,0)
 |[],acc,e=>by rw[tC]at e;rw[uT,nodesP,e]
 |n :: ns,acc,e=>by
  have hn:n∈g.nodes:=by rw[<-e];simp
  obtain⟨_,hg⟩:=h.good.nodes.mem hn;have hf:=h.node hn
  have hp:=props_of (all:=g.nodes.flatMap Gr.N.props) hf.good.props (Cy.keys_up hg.props) hf.keys fun p hp=>uF.2 ⟨n,hn,hp⟩
  have hnd:n.id∉acc.map Gr.N.id:=fun hm=>by
   have hu:=Cy.nodes_up h.good.nodes;rw[<-e]at hu;obtain⟨a,ha,hae⟩:=uU.1 hm
   have:=(wH.1 hu).2.2 a ha n (by simp)
   omega
  rw[tV,nodesP,rU (by unfold nodeRow;simp;omega)]
  unfold nodeRow;simp only[zK,zL,vF,vX];rw[known_of hf.good.lo hf.good.hi (by decide)]
  simp only;rw[rU hnd,labels_of hf.good.labels hf.labels,rU (by simp)]
  unfold keysN at hp⊢;rw[hp,rU (by simp)]
  exact nodes_go h ns (acc++[n]) (by rw[sV];exact e)
theorem end_of {ids:List Int} {n:Int} (h0:0<=n) (h1:n<1024) (hm:n∈ids):endP ids (Lib.itoa n)=some n:=by
 unfold endP;rw[known_of h0 h1 (by decide)]
 simp only;rw[rY hm]
theorem rels_go {g:Gr.G} (h:Cy.Fine g): ∀(ns acc:List Gr.R),acc++ns=g.rels->relsP (keysR g) (4+(keysR g).length) (g.nodes.map Gr.N.id) (ns.map (relRow (keysR g))) acc=(g.rels,0)
 |[],acc,e=>by rw[tC]at e;rw[uT,relsP,e]
 |n :: ns,acc,e=>by
  have hn:n∈g.rels:=by rw[<-e];simp
  obtain⟨_,hg⟩:=h.good.rels.mem hn;have hf:=h.rel hn
  have hp:=props_of (all:=g.rels.flatMap Gr.R.props) hf.good.props (Cy.keys_up hg.props) hf.keys fun p hp=>uF.2 ⟨n,hn,hp⟩
  have hnd:n.id∉acc.map Gr.R.id:=fun hm=>by
   have hu:=Cy.rels_up h.good.rels;rw[<-e]at hu;obtain⟨a,ha,hae⟩:=uU.1 hm
   have:=(wH.1 hu).2.2 a ha n (by simp)
   omega
  rw[tV,relsP,rU (by unfold relRow;simp;omega)]
  unfold relRow;simp only[zK,zL,vF,vX];rw[known_of hf.good.lo hf.good.hi (by decide)]
  simp only
  rw[rU hnd,end_of hf.good.slo hf.good.shi hg.src,end_of hf.good.dlo hf.good.dhi hg.dst]
  simp only;rw[rU (by rw[hg.name];decide)]
  unfold keysR at hp⊢;rw[hp,rU (by simp)]
  exact rels_go h ns (acc++[n]) (by rw[sV];exact e)
theorem keys_good {g:Gr.G} (h:Cy.Fine g):(∀k∈keysN g,Gr.goodName k=true)/\ ∀k∈keysR g,Gr.goodName k=true:=by
 constructor
 ·intro k hk
  obtain⟨p,hp,rfl⟩:=uU.1 (keys_mem.1 hk);obtain⟨n,hn,hpn⟩:=uF.1 hp
  exact((h.node hn).good.props p hpn).name
 intro k hk;obtain⟨p,hp,rfl⟩:=uU.1 (keys_mem.1 hk);obtain⟨n,hn,hpn⟩:=uF.1 hp
 exact((h.rel hn).good.props p hpn).name
theorem rows_ne (g:Gr.G): []∉rowsN g/\ []∉rowsR g:=by
 constructor
 ·unfold rowsN headN nodeRow
  intro h
  rcases uD.1 h with e|e
  ·cases e
  obtain⟨n,_,e⟩:=uU.1 e;cases e
 unfold rowsR headR relRow;intro h
 rcases uD.1 h with e|e
 ·cases e
 obtain⟨n,_,e⟩:=uU.1 e;cases e
theorem canon_fine {g:Gr.G} (h:Cy.Fine g):Gr.canon g=g:=by
 unfold Gr.canon
 rw[xA (g:=id) fun n hx=>(h.node hx).canon,zo,xA (g:=id) fun n hx=>(h.rel hx).canon,zo,Cy.sort_int (wB _) (Cy.nodes_up h.good.nodes),Cy.sort_int (wB _) (Cy.rels_up h.good.rels)]
theorem parse_print {g:Gr.G} (h:Cy.Fine g) (ha:(print g).1.length<=16777216) (hb:(print g).2.length<=16777216):parse (print g).1 (print g).2=(g,0):=by
 have e1:Csv.rowsOf (print g).1=(rowsN g,0):=Csv.rows_print _ (rows_ne g).1
 have e2:Csv.rowsOf (print g).2=(rowsR g,0):=Csv.rows_print _ (rows_ne g).2
 have e3:nodesOf (rowsN g)=(g.nodes,0):=by
  unfold nodesOf rowsN;rw[head_of (keys_good h).1 (keys_nodup _)]
  exact nodes_go h g.nodes [] rfl
 have e4:relsOf (g.nodes.map Gr.N.id) (rowsR g)=(g.rels,0):=by
  unfold relsOf rowsR;rw[head_of (keys_good h).2 (keys_nodup _)]
  exact rels_go h g.rels [] rfl
 have e5:(Gr.check g).1=0:=Gr.check_good.2 h.good;unfold parse;rw[rU (by omega),e1,e2]
 simp only;rw[rU (by simp),rU (by simp),e3]
 simp only;rw[rU (by simp),e4]
 simp only;rw[rU (by simp)]
 rw[show(⟨g.nodes,g.rels⟩:Gr.G)=g from rfl,canon_fine h,e5,rU (by simp)]
end Go.Proofs.YtanlehkalkafdaaGreatDoor.Tb
