/- Contracts and plain laws,part 9. -/
import Derived.Test.YtkdakckjafomhaaGreatDoorUW08
import Derived.Deep.RegionLaw
set_option maxHeartbeats 64000000
set_option maxRecDepth 1000000
set_option linter.all false
namespace Go.Proofs.YtkdakckjafomhaaGreatDoor
open Go.RowKit
theorem ahK:(Tryz.prog.info? 5).map (fun i=>(i.zero,i.size,i.bytes))=some (some (.int .u8 0),1,1):=by kernel_rfl
def OwnB (B:Nat) (v:Value) (l:List UInt8) (w:World):Prop:=w.ownsRow B 5 1 v l.length (Lib.byteCells l)
theorem byteCells_one (x:UInt8):Lib.byteCells [x]=[.int .u8 (x.toNat:Int)]:=by simp[Lib.byteCells]
theorem Zq (a b:List UInt8):Lib.byteCells (a++b)=Lib.byteCells a++Lib.byteCells b:=by simp[Lib.byteCells]
theorem OwnB.conv {B:Nat} {v:Value} {l:List UInt8} {w:World} (h:OwnB B v l w):(convert 124 9 v).run Tryz.prog w=.ok (.string ⟨l.toArray⟩) w:=by
 rcases h.2 with⟨rfl,hn⟩|⟨g,cap,cur,rfl,hb,hg,h1,h2,h3⟩
 ·have:l=[]:=adB hn
  subst this
  exact run_convert_bytes_nil w 124 5 Tryz.underlying124 Tryz.underlying5 0 0 9 Tryz.underlying9
 refine run_convert_bytes_back (P:=Tryz.prog) w 124 9 5 ⟨g,0,none⟩ cap l Tryz.underlying124 Tryz.underlying5 Tryz.underlying9 (fun j hj=> ?_)
 have hr:=Reads.dI (c:=cap) h;obtain⟨b',off',u,e,_,hu,hc⟩:=hr.at_ (k:=j) hj;cases e
 rw[O1];rw[hc,<-hu];simp[Lib.byteCells,dF hj]
theorem OwnB.form {B:Nat} {v:Value} {l:List UInt8} {w:World} (h:OwnB B v l w): ∃A c,v=.slice A l.length c:=aF h
theorem uV {ops:Array Oper} {rest:List Oper} {o:Oper} {a:Act} {Q:Exit->Act->World->Prop} (hgd:o.guard=none) (s x:Operand)
  (ho:o.op=.call {callee:=.builtin .append,args:= #[s,x],argTypes:= #[124,124]})
  (B:Nat) (v:Value) (l:List UInt8) (W:World) (hs:a.eval s=v) (h:OwnB B v l W) (bs:List UInt8) (us:List Value) (hu:us=Lib.byteCells bs) (m:Nat) (hm:bs.length=m)
  (hx:a.eval x=.slice (some ⟨W.heap.size,0,none⟩) m m) (hl:l.length<1073741824) (hm2:m<1073741824) (hB:B<=W.heap.size)
  (k: ∀v' w',OwnB B v' (l++bs) w'->W.grownBy w' v.ownBlock->Below B W w'->wpList Tryz.prog ops Q rest (a.put o.dst v') w'):
  wpList Tryz.prog ops Q (o :: rest) a (W.alloc (.cells us.toArray 5)):=by
 obtain⟨i0,hi,hz0,hz1,hz2⟩:=info_parts ahK;subst hu
 refine wpList_append_own _ hgd s x 124 ho B 5 i0 (.int .u8 0) 1 1 Tryz.underlying124 hi hz0 hz1 hz2 rfl (by decide) v l.length (Lib.byteCells l) hs (World.ownsRow.alloc h _) ⟨W.heap.size,0,none⟩ m m (Lib.byteCells bs) hx ?c0 ?c1 ?c2 ?c3 ?c4 ?c5 ?_
 case c0=>simp[Lib.byteCells,hm]
 case c1=>
  intro j u hj;rw[O1];have:=(au.new W 5 (Lib.byteCells bs).toArray).cell (0+j);rw[this]
  simpa using hj
 case c2=>intro u hu;simp only[Lib.byteCells,afK]at hu;obtain⟨_,_,rfl⟩:=hu;rfl
 case c3=>unfold maxLen;omega
 case c4=>omega
 case c5=>simp;omega
 intro v' w' hown hgr _;refine k v' w' ?_ ?_ ?_
 ·unfold OwnB
  rw[Zq,adf,hm];exact hown
 ·exact tZ (wO (mO W _) _) hgr
 exact((Below.refl B W).alloc hB _).grown hgr (by simp;omega) (fun j e=>(World.ownsRow.lt h j e).1)
theorem fD {ops:Array Oper} {rest:List Oper} {o:Oper} {a:Act} {Q:Exit->Act->World->Prop} (hgd:o.guard=none) (s x:Operand) (T e:TypeId) (z:Value) (bytes:Nat)
  (hT:Tryz.prog.underlying T=some (.slice e)) (hinfo:(Tryz.prog.info? e).map (fun i=>(i.zero,i.size,i.bytes))=some (some z,1,bytes)) (hz:z.cells.size=1) (hby:bytes<=24)
  (ho:o.op=.call {callee:=.builtin .append,args:= #[s,x],argTypes:= #[T,T]})
  (B:Nat) (v:Value) (n:Nat) (xs:List Value) (W:World) (hs:a.eval s=v) (h:W.ownsRow B e 1 v n xs) (u:Value) (hu:u.oneCell'=true)
  (hx:a.eval x=.slice (some ⟨W.heap.size,0,none⟩) 1 1) (hl:n<1073741824) (hB:B<=W.heap.size)
  (k: ∀v' w',w'.ownsRow B e 1 v' (n+1) (xs++[u])->W.grownBy w' v.ownBlock->(v'.ownBlock=v.ownBlock\/ ∃g,v'.ownBlock=some g/\W.heap.size<=g)->Below B W w'->wpList Tryz.prog ops Q rest (a.put o.dst v') w'):
  wpList Tryz.prog ops Q (o :: rest) a (W.alloc (.cells #[u] e)):=by
 obtain⟨i0,hi,hz0,hz1,hz2⟩:=info_parts hinfo
 refine wpList_append_own_at _ hgd s x T ho B e i0 z 1 bytes hT hi hz0 hz1 hz2 hz (by decide) v n xs hs (World.ownsRow.alloc h _) ⟨W.heap.size,0,none⟩ 1 1 [u] hx rfl ?c1 ?c2 ?c3 ?c4 ?c5 ?_
 case c1=>exact cell_one_new _ _ _
 case c2=>intro y hy;rw[ael.1 hy];exact hu
 case c3=>unfold maxLen;omega
 case c4=>
  have:(n+1)*bytes<=1073741824*24:=anL (by omega) hby
  omega
 case c5=>simp;omega
 intro v' w' hown hgr _ hwh
 refine k v' w' hown (tZ (wO (mO W _) _) hgr) (hwh.imp id (fun h=>⟨_,h,by simp⟩)) ?_
 exact((Below.refl B W).alloc hB _).grown hgr (by simp;omega) (fun j e=>(World.ownsRow.lt h j e).1)
theorem bc34: [Value.int .u8 34]=Lib.byteCells [34]:=by simp[Lib.byteCells]
theorem Zr (w:World) (xs:List Value) (t:TypeId): ∀(j:Nat) u,xs[j]?=some u->(w.alloc (.cells xs.toArray t)).cell? ((⟨w.heap.size,0,none⟩:Addr).add j)=some u:=by
 intro j u h;rw[O1,afW];have:=(au.new w t xs.toArray).cell j;rw[this]
 simpa using h
theorem JF {ops:Array Oper} {rest:List Oper} {o:Oper} {a:Act} {Q:Exit->Act->World->Prop} (hgd:o.guard=none) (s x:Operand) (T e:TypeId) (z:Value) (sz bytes:Nat)
  (hT:Tryz.prog.underlying T=some (.slice e)) (hinfo:(Tryz.prog.info? e).map (fun i=>(i.zero,i.size,i.bytes))=some (some z,sz,bytes)) (hz:z.cells.size=sz) (hsz:0<sz) (hby:bytes<=200)
  (ho:o.op=.call {callee:=.builtin .append,args:= #[s,x],argTypes:= #[T,T]})
  (B:Nat) (v:Value) (n:Nat) (xs:List Value) (W:World) (hs:a.eval s=v) (h:W.ownsRow B e sz v n xs) (news:List Value) (cs:Array Value) (hcs:cs=news.toArray) (hnl:news.length=sz) (hu: ∀u∈news,u.oneCell'=true)
  (hx:a.eval x=.slice (some ⟨W.heap.size,0,none⟩) 1 1) (hl:n<536870912) (hB:B<=W.heap.size)
  (k: ∀v' w',w'.ownsRow B e sz v' (n+1) (xs++news)->W.grownBy w' v.ownBlock->(v'.ownBlock=v.ownBlock\/ ∃g,v'.ownBlock=some g/\W.heap.size<=g)->Below B W w'->wpList Tryz.prog ops Q rest (a.put o.dst v') w'):
  wpList Tryz.prog ops Q (o :: rest) a (W.alloc (.cells cs e)):=by
 subst hcs;obtain⟨i0,hi,hz0,hz1,hz2⟩:=info_parts hinfo
 refine wpList_append_own_at _ hgd s x T ho B e i0 z sz bytes hT hi hz0 hz1 hz2 hz hsz v n xs hs (World.ownsRow.alloc h _) ⟨W.heap.size,0,none⟩ 1 1 news hx (by omega) ?c1 ?c2 ?c3 ?c4 ?c5 ?_
 case c1=>exact Zr _ _ _
 case c2=>exact hu
 case c3=>unfold maxLen;omega
 case c4=>
  have:(n+1)*bytes<=536870912*200:=anL (by omega) hby
  omega
 case c5=>simp;omega
 intro v' w' hown hgr _ hwh
 refine k v' w' hown (tZ (wO (mO W _) _) hgr) (hwh.imp id (fun h=>⟨_,h,by simp⟩)) ?_
 exact((Below.refl B W).alloc hB _).grown hgr (by simp;omega) (fun j e=>(World.ownsRow.lt h j e).1)
theorem JG (w:World) (base e sz:Nat) (hb:base<=w.heap.size):(w.alloc (.cells #[] e)).ownsRow base e sz (.slice (some ⟨w.heap.size,0,none⟩) 0 0) 0 []:=
 World.ownsRow_made w #[] 0 hb (by unfold maxLen;omega) (by simp)
def I64 (n:Int):Value:=.int .i64 n
def ST (t:List UInt8):Value:=.string ⟨t.toArray⟩
structure oV (W:World) (B:Nat) (u:Value) (v:ak.V):Prop where
 ex: ∃An cn At ct,u=.agg #[.int .i64 v.kind,.int .i64 v.num,.string ⟨v.text.toArray⟩,.slice An v.nums.length cn,.slice At v.texts.length ct]/\Reads W B 1 An v.nums.length (v.nums.map I64)/\Reads W B 1 At v.texts.length (v.texts.map ST)
 kin:ak.In64 v.kind
 num:ak.In64 v.num
 nums: ∀n∈v.nums,ak.In64 n
 tl:v.text.length<=1073741824
 nl:v.nums.length<=1073741824
 sl:v.texts.length<=1073741824
 sz: ∀t∈v.texts,t.length<=1073741824
theorem oV.below {W W':World} {B:Nat} {u:Value} {v:ak.V} (h:oV W B u v) (hb:Below B W W'):oV W' B u v:=by
 obtain⟨An,cn,At,ct,e,h1,h2⟩:=h.ex
 exact⟨⟨An,cn,At,ct,e,h1.below hb,h2.below hb⟩,h.kin,h.num,h.nums,h.tl,h.nl,h.sl,h.sz⟩
theorem O4 (n:Int):IntKind.u64.wrap n=(ak.u64 n:Int):=by
 rw[IntKind.wrap_u64];unfold ak.u64;omega
theorem ahL (n:Int):ak.zZ n=(((((ak.u64 n / 4503599627370496) % 2048:Nat):Int) == 2047) &&(((ak.u64 n % 4503599627370496:Nat):Int) !=0) &&((ak.u64 n:Int) !=9221120237041090560)):=by
 unfold ak.zZ;have h:=ak.EM n;obtain⟨b,hb⟩:=aj (ak.u64 n);rw[hb]at h⊢;rw[agn]
 simp only[aeW,aei,aeI,adY,ne_eq];omega
theorem Zt (k n:Int) (w:World) (hk:ak.In64 k) (hn:ak.In64 n):
  Calls Tryz.prog 143 #[.int .i64 k,.int .i64 n] w fun e w'=>e=.returned (.int .i64 (ak.gJ k n:Nat))/\w=w':=by
 obtain⟨R,hR⟩:=aj (ak.gJ k n);rw[hR];unfold ak.gJ at hR;obtain⟨hk1,hk2⟩:=hk
 obtain⟨hn1,hn2⟩:=hn;by_cases h1:k=1
 ·subst h1
  by_cases h0:n=0
  ·subst h0
   rw[ade (by omega),ade (by omega)]at hR
   subst hR;go_enter Tryz.func143,Tryz.ntmps143;go_wp2;go_ret;exact⟨rfl,rfl⟩
  by_cases h01:n=1
  ·subst h01
   rw[ade (by omega),ade (by omega)]at hR
   subst hR;go_enter Tryz.func143,Tryz.ntmps143;go_wp2;go_ret;exact⟨rfl,rfl⟩
  rw[adk ⟨rfl,h0,h01⟩]at hR;subst hR;have t0:(n !=0)=true:=adY.2 h0
  have t1:(n !=1)=true:=adY.2 h01;clear h0 h01 hk1 hk2 hn1 hn2
  go_enter Tryz.func143,Tryz.ntmps143;go_wp2;go_ret;exact⟨rfl,rfl⟩
 have t0:(k == 1)=false:=adh.2 h1;by_cases h3:k=3
 ·subst h3
  rw[ade (by omega)]at hR
  have hw:=O4 n;have hnr:=ahL n;have hb:=ak.EM n;obtain⟨b,hbb⟩:=aj (ak.u64 n)
  rw[hbb]at hw hnr hb
  obtain⟨E,hE⟩:=aj (((b / 4503599627370496 % 2048:Nat):Int) == 2047)
  obtain⟨F,hF⟩:=aj (((b % 4503599627370496:Nat):Int) !=0)
  obtain⟨G,hG⟩:=aj ((b:Int) !=9221120237041090560);rw[hE,hF,hG]at hnr
  obtain⟨q,hq⟩:=aj (b / 4503599627370496);obtain⟨e,he⟩:=aj (q % 2048)
  have r1:IntKind.u64.wrap ((b:Int) / 4503599627370496)=(q:Int):=by rw[IntKind.wrap_u64];omega
  have r2:((q:Int)).tmod 2048=(e:Int):=by rw[aqw (by omega)];omega
  have hE':((e:Int) == 2047)=E:=by rw[<-hE,hq,he]
  have hF':(((b:Int) % 4503599627370496) !=0)=F:=by rw[<-hF];congr 1
  have hu:=lM;have hr:R=if(E && F && G)=true then 43 else 0:=by rw[<-hR,hnr];simp
  have HR:=ah hr;have hbi:(0:Int)<=b:=by omega
  clear hR hr hE hF hnr hbb hb t0 h1 hk1 hk2 hn1 hn2 hq he;cases E with
  |false=>
   go_enter Tryz.func143,Tryz.ntmps143;go_wp2;go_ret;exact⟨by rw[HR.out];rfl,rfl⟩
  |true=>
   cases F with
   |false=>
    go_enter Tryz.func143,Tryz.ntmps143;go_wp2;go_ret;exact⟨by rw[HR.out];rfl,rfl⟩
   |true=>
    cases G with
    |false=>
     go_enter Tryz.func143,Tryz.ntmps143;go_wp2;go_ret;exact⟨by rw[HR.out];rfl,rfl⟩
    |true=>
     go_enter Tryz.func143,Tryz.ntmps143;go_wp2;go_ret;exact⟨by rw[HR.out];rfl,rfl⟩
 rw[ade (by omega),ade (by omega)]at hR
 subst hR;have t3:(k == 3)=false:=adh.2 h3;clear h1 h3 hk1 hk2 hn1 hn2
 go_enter Tryz.func143,Tryz.ntmps143;go_wp2;go_ret;exact⟨rfl,rfl⟩
theorem EY {ops:Array Oper} {o:Oper} {a:Act} {K:Act->World->Prop} {Q:Exit->Act->World->Prop} {E:Prop} (hgd:o.guard=none) (s x:Operand) (T e:TypeId) (z:Value) (bytes:Nat)
  (hT:Tryz.prog.underlying T=some (.slice e)) (hinfo:(Tryz.prog.info? e).map (fun i=>(i.zero,i.size,i.bytes))=some (some z,1,bytes)) (hz:z.cells.size=1) (hby:bytes<=24)
  (ho:o.op=.call {callee:=.builtin .append,args:= #[s,x],argTypes:= #[T,T]})
  (B:Nat) (v:Value) (n:Nat) (xs:List Value) (W:World) (hs:a.eval s=v) (h:W.ownsRow B e 1 v n xs) (u:Value) (hu:u.oneCell'=true)
  (hx:a.eval x=.slice (some ⟨W.heap.size,0,none⟩) 1 1) (hl:n<1073741824) (hB:B<=W.heap.size)
  (k: ∀v' w',w'.ownsRow B e 1 v' (n+1) (xs++[u])->W.grownBy w' v.ownBlock->(v'.ownBlock=v.ownBlock\/ ∃g,v'.ownBlock=some g/\W.heap.size<=g)->Below B W w'->K (a.put o.dst v') w'):
  if Region.wanted o (yielded ops a.tmps)=true then Oper.wp Tryz.prog o a (W.alloc (.cells #[u] e)) K Q else E:=by
 have hw:Region.wanted o (yielded ops a.tmps)=true:=by simp[Region.wanted,hgd]
 rw[adk hw];obtain⟨i0,hi,hz0,hz1,hz2⟩:=info_parts hinfo
 have hnews: ∀j u',([u]:List Value)[j]?=some u'->(W.alloc (.cells #[u] e)).cell? ((⟨W.heap.size,0,none⟩:Addr).add j)=some u':=cell_one_new _ _ _
 obtain⟨v',w',hrun,h2,h3,h4,h5⟩:=run_append_own_at (P:=Tryz.prog) (W.alloc (.cells #[u] e)) B T o.type e i0 z 1 bytes hT hi hz0 hz1 hz2 hz (by decide) v n xs (World.ownsRow.alloc h _) ⟨W.heap.size,0,none⟩ 1 1 [u] rfl hnews (fun y hy=>by rw[ael.1 hy];exact hu) (by unfold maxLen;omega) (by
  have:(n+1)*bytes<=1073741824*24:=anL (by omega) hby
  omega) (by simp;omega)
 unfold Oper.wp execOp
 simp only[ho,resolve,invoke,builtin,Sem.run_bind,Sem.run_pure,Result.andThen_ok,ard,aeR,afX,hs,hx,hrun]
 refine k v' w' h2 (tZ (wO (mO W _) _) h3) (h5.imp id (fun h=>⟨_,h,by simp⟩)) ?_
 exact((Below.refl B W).alloc hB _).grown h3 (by simp;omega) (fun j e=>(World.ownsRow.lt h j e).1)
theorem Reads.cell {w:World} {B:Nat} {A:Option Addr} {n:Nat} {xs:List Value} (h:Reads w B 1 A n xs) {k:Nat} (hk:k<n): ∃b o u,A=some ⟨b,o,none⟩/\b<B/\xs[k]?=some u/\w.cell? ⟨b,o+k,none⟩=some u:=by
 obtain⟨b,o,u,h1,h2,h3,h4⟩:=h.at_ hk;exact⟨b,o,u,h1,h2,h3,h4⟩
theorem ahM (B:Nat) (u1 u2:Value) (v:ak.V) (w:World) (h1:oV w B u1 v) (h2:oV w B u2 v) (hB:B<=w.heap.size):
  Calls Tryz.prog 58 #[u1,u2] w fun e w'=>e=.returned (.bool true)/\Below w.heap.size w w':=by
 obtain⟨A1,c1,A2,c2,rfl,dG,cO⟩:=h1.ex;obtain⟨A3,c3,A4,c4,rfl,Qn,Qo⟩:=h2.ex
 have hnl:=h1.nl;have hsl:=h1.sl;have hu:=lM;clear h1 h2;obtain⟨k0,n0,t0,ns,ts⟩:=v
 simp only at dG cO Qn Qo hnl hsl⊢;obtain⟨nn,hnn⟩:=aj ns.length
 obtain⟨tn,htn⟩:=aj ts.length;obtain⟨z,hz⟩:=aj (⟨t0.toArray⟩:ByteArray)
 rw[hnn]at dG Qn hnl⊢;rw[htn]at cO Qo hsl⊢;rw[hz]
 obtain⟨W1,hW1⟩:=aj ((w.alloc (.cells #[.int .i64 k0,.int .i64 n0,.string z,.slice A1 nn c1,.slice A2 tn c2] 37)).alloc (.cells #[.int .i64 k0,.int .i64 n0,.string z,.slice A3 nn c3,.slice A4 tn c4] 37))
 have hb1:Below w.heap.size w W1:=by rw[<-hW1];exact((Below.refl _ w).alloc (ac4 _) _).alloc (by simp) _
 have k1:au W1 w.heap.size 37 #[.int .i64 k0,.int .i64 n0,.string z,.slice A1 nn c1,.slice A2 tn c2]:=by rw[<-hW1];exact(au.new _ _ _).alloc _
 have k2:au W1 (w.heap.size+1) 37 #[.int .i64 k0,.int .i64 n0,.string z,.slice A3 nn c3,.slice A4 tn c4]:=by rw[<-hW1];have:=au.new (w.alloc (.cells #[.int .i64 k0,.int .i64 n0,.string z,.slice A1 nn c1,.slice A2 tn c2] 37)) 37 #[.int .i64 k0,.int .i64 n0,.string z,.slice A3 nn c3,.slice A4 tn c4];simpa using this
 have xB:=ah (dG.below (hb1.mono hB));have xC:=ah (cO.below (hb1.mono hB))
 have RB1:=ah (Qn.below (hb1.mono hB));have RB2:=ah (Qo.below (hb1.mono hB))
 have HB1:=ah hb1;have HW1:=ah hW1;have a0:=k1.cell 0;have a1:=k1.cell 1
 have a2:=k1.cell 2;have a3:=k1.cell 3;have a4:=k1.cell 4;have b0:=k2.cell 0
 have b1:=k2.cell 1;have b2:=k2.cell 2;have b3:=k2.cell 3;have b4:=k2.cell 4
 simp at a0 a1 a2 a3 a4 b0 b1 b2 b3 b4;clear dG cO Qn Qo hnn htn hz k1 k2 hb1 hW1
 go_enter Tryz.func58,Tryz.ntmps58
 go_upto_region 1 with fail
 rw[HW1.out];clear HW1;go_wp2_with fail
 go_loopg [5] nn (fun g x wr=> ∃k m:Nat,x=.int .i64 k/\k+g=nn/\W1.drewN m=wr)
 case atStart=>exact⟨0,0,rfl,by omega,rfl⟩
 obtain⟨k,m,rfl,hk,rfl⟩:=hrel;have Dy:(k:Int)<=1073741824:=by omega
 have HK:=ah hk;cases gk with
 |zero=>
  obtain rfl:k=nn:=by omega
  clear hk;go_wp2_with fail
  go_loopg [6] tn (fun g x wr=> ∃j m:Nat,x=.int .i64 j/\j+g=tn/\W1.drewN m=wr)
  case atStart=>exact⟨0,m,rfl,by omega,rfl⟩
  obtain⟨j,m,rfl,hj,rfl⟩:=hrel;have nX:(j:Int)<=1073741824:=by omega
  have HJ:=ah hj;cases gk with
  |zero=>
   obtain rfl:j=tn:=by omega
   clear hj;go_wp2;go_ret;exact⟨rfl,below_drewN HB1.out _⟩
  |succ g=>
   have hjn:j<tn:=by omega
   have nX:(j:Int)<tn:=by omega
   obtain⟨p,o,x,rfl,-,hx,hp⟩:=xC.out.cell hjn
   obtain⟨p',o',x',rfl,-,hx',hp'⟩:=RB2.out.cell hjn;rw[hx]at hx'
   obtain rfl:x=x':=ad4 hx';rw[adX]at hx;obtain⟨y,-,rfl⟩:=ae4.1 hx;unfold ST at hp hp'
   clear hx hx' hj;go_wp2_with fail
   go_quiet (fail)
   go_wp2
   go_roundg g
   case measure=>omega
   exact⟨j+1,m+nq,int_eq' (by omega),by have:=HJ.out;omega,rfl⟩
 |succ g=>
  have hkn:k<nn:=by omega
  have dH:(k:Int)<nn:=by omega
  obtain⟨p,o,x,rfl,-,hx,hp⟩:=xB.out.cell hkn
  obtain⟨p',o',x',rfl,-,hx',hp'⟩:=RB1.out.cell hkn;rw[hx]at hx'
  obtain rfl:x=x':=ad4 hx';rw[adX]at hx;obtain⟨y,-,rfl⟩:=ae4.1 hx;unfold I64 at hp hp'
  clear hx hx' hk;go_wp2_with fail
  go_quiet (fail)
  go_wp2
  go_roundg g
  case measure=>omega
  exact⟨k+1,m+nq,int_eq' (by omega),by have:=HK.out;omega,rfl⟩
structure mP (W:World) (B:Nat) (u:Value) (v:ak.V):Prop where
 ex: ∃s t,u=.agg #[.int .i64 v.kind,.int .i64 v.num,.string ⟨v.text.toArray⟩,s,t]/\W.ownsRow B 2 1 s v.nums.length (v.nums.map I64)/\W.ownsRow B 9 1 t v.texts.length (v.texts.map ST)
structure IX (v:ak.V):Prop where
 kin:ak.In64 v.kind
 num:ak.In64 v.num
 nums: ∀n∈v.nums,ak.In64 n
 tl:v.text.length<=1073741824
 nl:v.nums.length<=1073741824
 sl:v.texts.length<=1073741824
 sz: ∀t∈v.texts,t.length<=1073741824
theorem mP.IY {W:World} {B:Nat} {u:Value} {v:ak.V} (h:mP W B u v) (ok:IX v):oV W W.heap.size u v:=by
 obtain⟨s,t,rfl,h1,h2⟩:=h.ex;obtain⟨A1,c1,rfl⟩:=aF h1;obtain⟨A2,c2,rfl⟩:=aF h2
 exact⟨⟨A1,c1,A2,c2,rfl,Reads.dI h1,Reads.dI h2⟩,ok.kin,ok.num,ok.nums,ok.tl,ok.nl,ok.sl,ok.sz⟩
theorem mP.below {W W':World} {B:Nat} {u:Value} {v:ak.V} (h:mP W B u v) (hb:Below W.heap.size W W'):mP W' B u v:=by
 obtain⟨s,t,rfl,h1,h2⟩:=h.ex
 exact⟨s,t,rfl,aW h1 (dL hb none) (fun g c t fz hr=>by cases hr),aW h2 (dL hb none) (fun g c t fz hr=>by cases hr)⟩
theorem TG:(Tryz.prog.info? 2).map (fun i=>(i.zero,i.size,i.bytes))=some (some (.int .i64 0),1,8):=by kernel_rfl
theorem TI:(Tryz.prog.info? 9).map (fun i=>(i.zero,i.size,i.bytes))=some (some (.string ⟨#[]⟩),1,16):=by kernel_rfl
namespace ak
def gV (k:Int):Int:=if 4<k then k - 4 else k
end ak
theorem ahN (n:Int):ak.zZ n=((((ak.u64 n % 9223372036854775808 / 4503599627370496:Nat):Int) == 2047) &&(((ak.u64 n*4096 % 18446744073709551616:Nat):Int) !=0) &&((ak.u64 n:Int) !=9221120237041090560)):=by
 unfold ak.zZ;have h:=ak.EM n;obtain⟨b,hb⟩:=aj (ak.u64 n);rw[hb]at h⊢;rw[agn]
 simp only[aeW,aei,aeI,adY,ne_eq];omega
theorem TJ (k:Int) (w:World) (hk:ak.In64 k):
  Calls Tryz.prog 199 #[.int .i64 k] w fun e w'=>e=.returned (.int .i64 (ak.gV k))/\w=w':=by
 obtain⟨h1,h2⟩:=hk;unfold ak.gV;by_cases h:4<k
 ·rw[adk h]
  go_enter Tryz.func199,Tryz.ntmps199;go_wp2;go_ret;exact⟨rfl,rfl⟩
 rw[ade h];have h':k<=4:=by omega
 go_enter Tryz.func199,Tryz.ntmps199;go_wp2;go_ret;exact⟨rfl,rfl⟩
theorem Zu (k n:Int) (w:World) (hk:ak.In64 k) (_hn:ak.In64 n):
  Calls Tryz.prog 157 #[.int .i64 k,.int .i64 n] w fun e w'=>e=.returned (.int .i64 (ak.gJ (ak.gV k) n:Nat))/\w=w':=by
 have hb:=fun(W:World)=>TJ k W hk
 obtain⟨c,hc⟩:=aj (ak.gV k);rw[hc]at hb⊢;have HB:=ah hb;obtain⟨R,hR⟩:=aj (ak.gJ c n)
 rw[hR];unfold ak.gJ at hR;clear hk _hn hb hc;by_cases h1:c=1
 ·subst h1
  by_cases h0:n=0
  ·subst h0
   rw[ade (by omega),ade (by omega)]at hR
   subst hR;go_enter Tryz.func157,Tryz.ntmps157;go_wp2_with fail;refine(HB.out _).mono ?_
   rintro e w' ⟨rfl,rfl⟩;go_wp2;go_ret;exact⟨rfl,rfl⟩
  by_cases h01:n=1
  ·subst h01
   rw[ade (by omega),ade (by omega)]at hR
   subst hR;go_enter Tryz.func157,Tryz.ntmps157;go_wp2_with fail;refine(HB.out _).mono ?_
   rintro e w' ⟨rfl,rfl⟩;go_wp2;go_ret;exact⟨rfl,rfl⟩
  rw[adk ⟨rfl,h0,h01⟩]at hR;subst hR;have t0:(n !=0)=true:=adY.2 h0
  have t1:(n !=1)=true:=adY.2 h01;clear h0 h01;go_enter Tryz.func157,Tryz.ntmps157
  go_wp2_with fail;refine(HB.out _).mono ?_;rintro e w' ⟨rfl,rfl⟩;go_wp2;go_ret
  exact⟨rfl,rfl⟩
 have t0:(c == 1)=false:=adh.2 h1;by_cases h3:c=3
 ·subst h3
  rw[ade (by omega)]at hR
  have hw:=O4 n;have hnr:=ahN n;have hb:=ak.EM n;obtain⟨b,hbb⟩:=aj (ak.u64 n)
  rw[hbb]at hw hnr hb;obtain⟨q,hq⟩:=aj (b % 9223372036854775808 / 4503599627370496)
  obtain⟨g,hg⟩:=aj (b*4096 % 18446744073709551616);have r1:=Ze b hb;rw[hq]at r1 hnr
  rw[hg]at hnr
  have r2:IntKind.u64.wrap ((b:Int)*4096)=(g:Int):=by rw[IntKind.wrap_u64];omega
  obtain⟨E,hE⟩:=aj ((q:Int) == 2047);obtain⟨F,hF⟩:=aj ((g:Int) !=0)
  obtain⟨G,hG⟩:=aj ((b:Int) !=9221120237041090560);rw[hE,hF,hG]at hnr;have hu:=lM
  have hr:R=if(E && F && G)=true then 43 else 0:=by rw[<-hR,hnr];simp
  have HR:=ah hr;have hbi:(0:Int)<=b:=by omega
  clear hR hr hnr hbb hb t0 h1 hq hg;cases E with
  |false=>
   go_enter Tryz.func157,Tryz.ntmps157;go_wp2_with fail;refine(HB.out _).mono ?_
   rintro e w' ⟨rfl,rfl⟩;go_wp2;go_ret;exact⟨by rw[HR.out];rfl,rfl⟩
  |true=>
   cases F with
   |false=>
    go_enter Tryz.func157,Tryz.ntmps157;go_wp2_with fail;refine(HB.out _).mono ?_
    rintro e w' ⟨rfl,rfl⟩;go_wp2;go_ret;exact⟨by rw[HR.out];rfl,rfl⟩
   |true=>
    cases G with
    |false=>
     go_enter Tryz.func157,Tryz.ntmps157;go_wp2_with fail;refine(HB.out _).mono ?_
     rintro e w' ⟨rfl,rfl⟩;go_wp2;go_ret;exact⟨by rw[HR.out];rfl,rfl⟩
    |true=>
     go_enter Tryz.func157,Tryz.ntmps157;go_wp2_with fail;refine(HB.out _).mono ?_
     rintro e w' ⟨rfl,rfl⟩;go_wp2;go_ret;exact⟨by rw[HR.out];rfl,rfl⟩
 rw[ade (by omega),ade (by omega)]at hR
 subst hR;have t3:(c == 3)=false:=adh.2 h3;clear h1 h3;go_enter Tryz.func157,Tryz.ntmps157
 go_wp2_with fail;refine(HB.out _).mono ?_;rintro e w' ⟨rfl,rfl⟩;go_wp2;go_ret
 exact⟨rfl,rfl⟩
theorem ahO (s:ByteArray) (w:World):Calls Tryz.prog 156 #[.string s] w fun e w'=>e=.returned (.bool (decide (1000<s.size)))/\w=w':=by
 by_cases h:1000<s.size
 ·rw[adb h]
  have h':(1000:Int)<s.size:=by omega
  have t:decide (1000<s.size)=true:=adb h;go_enter Tryz.func156,Tryz.ntmps156;go_wp2
  go_ret;exact⟨by simp,rfl⟩
 rw[ac5 h];have h':(s.size:Int)<=1000:=by omega
 have t:decide (1000<s.size)=false:=ac5 h;go_enter Tryz.func156,Tryz.ntmps156;go_wp2
 go_ret;exact⟨by simp;omega,rfl⟩
def CY:List (List UInt8)->Nat->Int
 |[],_=> -1
 |t :: r,i=>if 1000<t.length then(i:Int) else CY r (i+1)
theorem Zv: ∀(l:List (List UInt8)) (i:Nat),decide (0<=CY l i)=ak.kP l
 |[],i=>rfl
 |t :: r,i=>by
  unfold CY ak.kP;rw[arz];by_cases h:1000<t.length
  ·rw[adk h,adb h,Bool.true_or]
   exact adb (by omega)
  rw[ade h,ac5 h,Bool.false_or];exact Zv r (i+1)
theorem ahP (B:Nat) (A:Option Addr) (n c:Nat) (ts:List (List UInt8)) (w:World) (h:Reads w B 1 A n (ts.map ST)) (hn:ts.length=n) (hl:n<=1073741824) (hsz: ∀t∈ts,t.length<=1073741824):
  Calls Tryz.prog 200 #[.slice A n c,.func (.func 156) #[] #[]] w fun e w'=>e=.returned (.int .i64 (CY ts 0))/\w=w':=by
 obtain⟨R,hR⟩:=aj (CY ts 0);rw[hR];have H:=ah h;have HN:=ah hn;have HR:=ah hR
 have fF:=ah hsz;have Vq:=ah ahO;clear h hn hR hsz;go_enter Tryz.func200,Tryz.ntmps200
 go_wp2_with fail
 go_loopg [8] n (fun g x wr=> ∃k:Nat,x=.int .i64 k/\k+g=n/\CY (ts.drop k) k=R/\w=wr)
 case atStart=>exact⟨0,rfl,by omega,HR.out,rfl⟩
 obtain⟨k,rfl,hk,hr,rfl⟩:=hrel;have HK:=ah hk;have HRK:=ah hr
 have Dy:(k:Int)<=1073741824:=by omega
 clear hr;cases gk with
 |zero=>
  obtain rfl:k=n:=by omega
  have hr:=HRK.out;rw[aeJ (by have:=HN.out;omega)]at hr
  have HRR:=ah (show -1=R from hr)
  clear hk hr;go_wp2;go_ret;exact⟨by rw[<-HRR.out];rfl,rfl⟩
 |succ g=>
  have hkn:k<n:=by omega
  have dH:(k:Int)<n:=by omega
  have hkl:k<ts.length:=by rw[HN.out];exact hkn
  obtain⟨p,o,x,rfl,-,hx,hp⟩:=H.out.cell hkn;rw[adX,dF hkl]at hx
  obtain rfl:=(ad4 hx).symm;have hr:=HRK.out;rw[aez hkl]at hr
  have hyl:(ts[k]).length<=1073741824:=fF.out _ (arf _);obtain⟨y,hy⟩:=aj (ts[k])
  rw[hy]at hp hr hyl;unfold ST at hp;obtain⟨zy,hzy⟩:=aj (⟨y.toArray⟩:ByteArray)
  rw[hzy]at hp;have hzs:zy.size=y.length:=by rw[<-hzy];exact gq _
  have hcall:=fun(W:World)=>Vq.out zy W
  rw[hzs]at hcall;unfold CY at hr;by_cases hl1:1000<y.length
  ·rw[adk hl1]at hr
   rw[adb hl1]at hcall;have HC:=ah hcall;have HRR:=ah hr
   clear hx hk hkl hy hzy hzs hcall hr hl1 hyl;go_wp2_with fail;refine(HC.out _).mono ?_
   rintro e w' ⟨rfl,rfl⟩;go_wp2;go_ret;exact⟨by rw[<-HRR.out];rfl,rfl⟩
  rw[ade hl1]at hr;rw[ac5 hl1]at hcall;have HC:=ah hcall;have HRR:=ah hr
  clear hx hk hkl hy hzy hzs hcall hr hl1 hyl;go_wp2_with fail;refine(HC.out _).mono ?_
  rintro e w' ⟨rfl,rfl⟩;go_wp2
  go_roundg g
  case measure=>omega
  exact⟨k+1,int_eq' (by omega),by have:=HK.out;omega,HRR.out,rfl⟩
theorem ahQ (B:Nat) (A:Option Addr) (n c:Nat) (ts:List (List UInt8)) (w:World) (h:Reads w B 1 A n (ts.map ST)) (hn:ts.length=n) (hl:n<=1073741824) (hsz: ∀t∈ts,t.length<=1073741824):
  Calls Tryz.prog 155 #[.slice A n c,.func (.func 156) #[] #[]] w fun e w'=>e=.returned (.bool (ak.kP ts))/\w=w':=by
 have hc:=ahP B A n c ts w h hn hl hsz;obtain⟨R,hR⟩:=aj (CY ts 0)
 obtain⟨L,hL⟩:=aj (ak.kP ts);have he:=Zv ts 0;rw[hR,hL]at he;rw[hR]at hc;rw[hL]
 have HC:=ah hc;clear hc hR hL h hn hl hsz;go_enter Tryz.func155,Tryz.ntmps155
 go_wp2_with fail;refine HC.mono ?_;rintro e w' ⟨rfl,rfl⟩;go_wp2;go_ret
 exact⟨by simp,rfl⟩
end Go.Proofs.YtkdakckjafomhaaGreatDoor
namespace Go.Proofs.YtkdakckjafomhaaGreatDoor
open Go.RowKit
theorem y8 {w w':World} {B e e' n n' sz sz':Nat} {v x:Value} {xs ys:List Value} (h:w.ownsRow B e sz v n xs) (hg:w.grownBy w' x.ownBlock) (hx:w.ownsRow B e' sz' x n' ys) (hne:e'≠e):w'.ownsRow B e sz v n xs:=
 aW h hg (fun g c t fz hr hc=>by
  obtain⟨_,c',hc'⟩:=tY hx g hr;rw[hc']at hc;cases hc
  exact hne)
theorem iy {w:World} {B B' e sz n:Nat} {v:Value} {xs:List Value} (h:w.ownsRow B e sz v n xs) (hB:B'<=B):w.ownsRow B' e sz v n xs:=by
 refine⟨h.1, ?_⟩
 rcases h.2 with hn|⟨g,cap,cur,rfl,hb,rest⟩
 ·exact .inl hn
 exact .inr ⟨g,cap,cur,rfl,adg hB hb,rest⟩
theorem ret_val {fn:Func} {R:Ending->World->Prop} {tmps:Array Value} {W:World} {p:Tmp} {b:Nat} {v0 v1 v2 v3 v4:Value} (hfn:fn.results= #[.cell p 37])
  (ht:tmps.getD p undef=.pointer (some ⟨b,0,none⟩)) (hB:au W b 37 #[v0,v1,v2,v3,v4]) (hR:R (.returned (.agg #[v0,v1,v2,v3,v4])) W):
  bodyPost Tryz.prog fn R .ret {tmps:=tmps,defers:=[]} W:=by
 have c0:=hB.cell 0;have c1:=hB.cell 1;have c2:=hB.cell 2;have c3:=hB.cell 3
 have c4:=hB.cell 4;simp at c0 c1 c2 c3 c4
 refine bodyPost_ret (v:=.agg #[v0,v1,v2,v3,v4]) ?_ rfl hR;simp at ht
 simp[results,hfn,go_sem,ht,c0,c1,c2,c3,c4]
theorem aU {W:World} {b:Nat} {v0 v1 v2 v3 v4:Value} (h:au W b 37 #[v0,v1,v2,v3,v4]):
  W.cell? ⟨b,0,none⟩=some v0/\W.cell? ⟨b,1,none⟩=some v1/\W.cell? ⟨b,2,none⟩=some v2/\W.cell? ⟨b,3,none⟩=some v3/\W.cell? ⟨b,4,none⟩=some v4/\
  W.frozen? ⟨b,0,none⟩=false/\W.frozen? ⟨b,1,none⟩=false/\W.frozen? ⟨b,2,none⟩=false/\W.frozen? ⟨b,3,none⟩=false/\W.frozen? ⟨b,4,none⟩=false:=
 ⟨h.cell 0,h.cell 1,h.cell 2,h.cell 3,h.cell 4,h.frozen 0,h.frozen 1,h.frozen 2,h.frozen 3,h.frozen 4⟩
theorem JH {W:World} {b:Nat} {u0 u1 u2 u3 u4:Value} (h:au W b 37 #[u0,u1,u2,u3,u4]) (v0 v1 v2 v3 v4:Value):
  au (((((W.setCell ⟨b,0,none⟩ v0).setCell ⟨b,1,none⟩ v1).setCell ⟨b,2,none⟩ v2).setCell ⟨b,3,none⟩ v3).setCell ⟨b,4,none⟩ v4) b 37 #[v0,v1,v2,v3,v4]:=
 au.cast (((((h.bP 0 v0).bP 1 v1).bP 2 v2).bP 3 v3).bP 4 v4) (by simp)
theorem JI (W:World) (b:Nat) (v0 v1 v2 v3 v4:Value):W.grownBy (((((W.setCell ⟨b,0,none⟩ v0).setCell ⟨b,1,none⟩ v1).setCell ⟨b,2,none⟩ v2).setCell ⟨b,3,none⟩ v3).setCell ⟨b,4,none⟩ v4) (some b):=
 tZ (tZ (tZ (tZ (grownBy_set W ⟨b,0,none⟩ v0) (grownBy_set _ ⟨b,1,none⟩ v1)) (grownBy_set _ ⟨b,2,none⟩ v2)) (grownBy_set _ ⟨b,3,none⟩ v3)) (grownBy_set _ ⟨b,4,none⟩ v4)
structure uX (w:World) (a r:Array Value) (c0 c1 c2 s t:Value) (k j:Nat) (xs ys:List Value) (W:World):Prop where
 arg:au W w.heap.size 37 a
 res:au W (w.heap.size+1) 37 r
 fG:au W (w.heap.size+2) 37 #[c0,c1,c2,s,t]
 own:W.ownsRow (w.heap.size+3) 2 1 s k xs
 owt:W.ownsRow (w.heap.size+3) 9 1 t j ys
 bel:Below w.heap.size w W
 big:w.heap.size+3<=W.heap.size
theorem uX.drew {w:World} {a r:Array Value} {c0 c1 c2 s t:Value} {k j:Nat} {xs ys:List Value} {W:World} (h:uX w a r c0 c1 c2 s t k j xs ys W):uX w a r c0 c1 c2 s t k j xs ys W.drew:=
 ⟨h.arg,h.res,h.fG,aW h.own (JB (mO _ none)) (fun g c t fz e=>by cases e),aW h.owt (JB (mO _ none)) (fun g c t fz e=>by cases e),h.bel.drew,h.big⟩
theorem uX.num {w:World} {a r:Array Value} {c0 c1 c2 s t:Value} {k j:Nat} {xs ys:List Value} {W W1:World} {s' u:Value} (h:uX w a r c0 c1 c2 s t k j xs ys W)
  (ho:W1.ownsRow (w.heap.size+3) 2 1 s' (k+1) (xs++[u])) (hg:W.grownBy W1 s.ownBlock) (hb:Below (w.heap.size+3) W W1):
  W1.cell? ⟨w.heap.size+2,3,none⟩=some s/\W1.frozen? ⟨w.heap.size+2,3,none⟩=false/\uX w a r c0 c1 c2 s' t (k+1) j (xs++[u]) ys (W1.setCell ⟨w.heap.size+2,3,none⟩ s'):=by
 have k0:=h.arg.below hb (by omega)
 have k1:=h.res.below hb (by omega)
 have k2:=h.fG.below hb (by omega)
 have o2:=y8 h.owt hg h.own (by decide)
 have hs:=grownBy_set W1 ⟨w.heap.size+2,3,none⟩ s'
 have nt: ∀{e:TypeId},e≠37-> ∀g c t fz,some (⟨w.heap.size+2,3,none⟩:Addr).block=some g->W1.heap[g]?=some (.cells c t fz)->t≠e:=fun he g c t fz e hc=>by
  cases e;unfold au at k2;rw[k2]at hc;cases hc;exact Ne.symm he
 refine⟨k2.cell 3,k2.frozen 3,k0.far (by simp) _,k1.far (by simp) _,au.cast (k2.bP 3 s') (by simp),aW ho hs (nt (by decide)),aW o2 hs (nt (by decide)), ?_, ?_⟩
 ·exact(h.bel.trans (hb.mono (by omega))).setCell (p:=⟨w.heap.size+2,3,none⟩) (by simp) _
 have:=h.big;have:=hb.size;simp;omega
theorem uX.txt {w:World} {a r:Array Value} {c0 c1 c2 s t:Value} {k j:Nat} {xs ys:List Value} {W W1:World} {t' u:Value} (h:uX w a r c0 c1 c2 s t k j xs ys W)
  (ho:W1.ownsRow (w.heap.size+3) 9 1 t' (j+1) (ys++[u])) (hg:W.grownBy W1 t.ownBlock) (hb:Below (w.heap.size+3) W W1):
  W1.cell? ⟨w.heap.size+2,4,none⟩=some t/\W1.frozen? ⟨w.heap.size+2,4,none⟩=false/\uX w a r c0 c1 c2 s t' k (j+1) xs (ys++[u]) (W1.setCell ⟨w.heap.size+2,4,none⟩ t'):=by
 have k0:=h.arg.below hb (by omega)
 have k1:=h.res.below hb (by omega)
 have k2:=h.fG.below hb (by omega)
 have o2:=y8 h.own hg h.owt (by decide)
 have hs:=grownBy_set W1 ⟨w.heap.size+2,4,none⟩ t'
 have nt: ∀{e:TypeId},e≠37-> ∀g c t fz,some (⟨w.heap.size+2,4,none⟩:Addr).block=some g->W1.heap[g]?=some (.cells c t fz)->t≠e:=fun he g c t fz e hc=>by
  cases e;unfold au at k2;rw[k2]at hc;cases hc;exact Ne.symm he
 refine⟨k2.cell 4,k2.frozen 4,k0.far (by simp) _,k1.far (by simp) _,au.cast (k2.bP 4 t') (by simp),aW o2 hs (nt (by decide)),aW ho hs (nt (by decide)), ?_, ?_⟩
 ·exact(h.bel.trans (hb.mono (by omega))).setCell (p:=⟨w.heap.size+2,4,none⟩) (by simp) _
 have:=h.big;have:=hb.size;simp;omega
theorem ahR (B:Nat) (u:Value) (v:ak.V) (w:World) (h:oV w B u v) (hB:B<=w.heap.size):
  Calls Tryz.prog 142 #[u] w fun e w'=> ∃u',e=.returned u'/\mP w' w.heap.size u' v/\Below w.heap.size w w':=by
 obtain⟨A1,c1,A2,c2,rfl,dG,cO⟩:=h.ex;have hnl:=h.nl;have hsl:=h.sl;clear h
 obtain⟨k0,n0,t0,ns,ts⟩:=v;simp only at dG cO hnl hsl⊢;obtain⟨nn,hnn⟩:=aj ns.length
 obtain⟨tn,htn⟩:=aj ts.length;obtain⟨z,hz⟩:=aj (⟨t0.toArray⟩:ByteArray)
 rw[hnn]at dG hnl⊢;rw[htn]at cO hsl⊢;rw[hz]
 have hres: ∀w' s t,Below w.heap.size w w'->w'.ownsRow (w.heap.size+3) 2 1 s nn (ns.map I64)->w'.ownsRow (w.heap.size+3) 9 1 t tn (ts.map ST)->mP w' w.heap.size (.agg #[.int .i64 k0,.int .i64 n0,.string z,s,t]) ⟨k0,n0,t0,ns,ts⟩:=fun w' s t _ h1 h2=>by
  refine⟨s,t,by rw[<-hz], ?_, ?_⟩
  ·rw[hnn];exact iy h1 (by omega)
  rw[htn];exact iy h2 (by omega)
 obtain⟨W1,hW1⟩:=aj (((w.alloc (.cells #[.int .i64 k0,.int .i64 n0,.string z,.slice A1 nn c1,.slice A2 tn c2] 37)).alloc (.cells #[.int .i64 0,.int .i64 0,.string ⟨#[]⟩,.slice none 0 0,.slice none 0 0] 37)).alloc (.cells #[.int .i64 k0,.int .i64 n0,.string z,.slice none 0 0,.slice none 0 0] 37))
 have hcp:uX w #[.int .i64 k0,.int .i64 n0,.string z,.slice A1 nn c1,.slice A2 tn c2] #[.int .i64 0,.int .i64 0,.string ⟨#[]⟩,.slice none 0 0,.slice none 0 0] (.int .i64 k0) (.int .i64 n0) (.string z) (.slice none 0 0) (.slice none 0 0) 0 0 [] [] W1:=by
  rw[<-hW1]
  refine⟨((au.new _ _ _).alloc _).alloc _, ?_, ?_,World.ownsRow_nil _ _ _ _,World.ownsRow_nil _ _ _ _,(((Below.refl _ w).alloc (ac4 _) _).alloc (by simp) _).alloc (by simp;omega) _,by simp⟩
  ·have:=(au.new (w.alloc (.cells #[.int .i64 k0,.int .i64 n0,.string z,.slice A1 nn c1,.slice A2 tn c2] 37)) 37 #[.int .i64 0,.int .i64 0,.string ⟨#[]⟩,.slice none 0 0,.slice none 0 0]).alloc (.cells #[.int .i64 k0,.int .i64 n0,.string z,.slice none 0 0,.slice none 0 0] 37)
   simpa using this
  have:=au.new ((w.alloc (.cells #[.int .i64 k0,.int .i64 n0,.string z,.slice A1 nn c1,.slice A2 tn c2] 37)).alloc (.cells #[.int .i64 0,.int .i64 0,.string ⟨#[]⟩,.slice none 0 0,.slice none 0 0] 37)) 37 #[.int .i64 k0,.int .i64 n0,.string z,.slice none 0 0,.slice none 0 0]
  simpa using this
 have xB:=ah dG;have xC:=ah cO;have dW:=ah hcp;have HW1:=ah hW1;have kD:=ah hres
 have aC:=ah hnn;have aI:=ah htn;clear dG cO hnn htn hz hcp hW1 hres
 go_enter Tryz.func142,Tryz.ntmps142;go_wp2_with fail;rw[HW1.out];clear HW1
 go_loopg [4] nn (fun g x wr=> ∃(k:Nat) (s:Value),x=.int .i64 k/\k+g=nn/\uX w #[.int .i64 k0,.int .i64 n0,.string z,.slice A1 nn c1,.slice A2 tn c2] #[.int .i64 0,.int .i64 0,.string ⟨#[]⟩,.slice none 0 0,.slice none 0 0] (.int .i64 k0) (.int .i64 n0) (.string z) s (.slice none 0 0) k 0 ((ns.take k).map I64) [] wr)
 case atStart=>exact⟨0,_,rfl,by omega,dW.out⟩
 obtain⟨k,s,rfl,hk,hrel⟩:=hrel;have Dy:(k:Int)<=1073741824:=by omega
 have HK:=ah hk;have HR:=ah hrel;have hbig:=hrel.big;obtain⟨As,cs,rfl⟩:=aF hrel.own
 obtain⟨a0,a1,a2,a3,a4,-⟩:=aU hrel.arg;obtain⟨b0,b1,b2,b3,b4,-,-,-,f3,f4⟩:=aU hrel.fG
 cases gk with
 |zero=>
  obtain rfl:k=nn:=by omega
  have hfull:(ns.take k).map I64=ns.map I64:=by rw[ado (by have:=aC.out;omega)]
  rw[hfull]at hrel;have HR2:=ah hrel;clear hk hrel hfull HR b0 b1 b2 b3 b4 f3 f4
  go_wp2_with fail;clear a0 a1 a2 a3 a4
  go_loopg [5] tn (fun g x wr=> ∃(j:Nat) (t:Value),x=.int .i64 j/\j+g=tn/\uX w #[.int .i64 k0,.int .i64 n0,.string z,.slice A1 k c1,.slice A2 tn c2] #[.int .i64 0,.int .i64 0,.string ⟨#[]⟩,.slice none 0 0,.slice none 0 0] (.int .i64 k0) (.int .i64 n0) (.string z) (.slice As k cs) t k j (ns.map I64) ((ts.take j).map ST) wr)
  case atStart=>exact⟨0,_,rfl,by omega,HR2.out⟩
  obtain⟨j,t,rfl,hj,hrel⟩:=hrel;have nX:(j:Int)<=1073741824:=by omega
  have HJ:=ah hj;have HR:=ah hrel;have hbig:=hrel.big;obtain⟨At,ct,rfl⟩:=aF hrel.owt
  obtain⟨a0,a1,a2,a3,a4,-⟩:=aU hrel.arg;obtain⟨b0,b1,b2,b3,b4,-,-,-,f3,f4⟩:=aU hrel.fG
  obtain⟨e0,e1,e2,e3,e4,g0,g1,g2,g3,g4⟩:=aU hrel.res;cases gk with
  |zero=>
   obtain rfl:j=tn:=by omega
   have hfull:(ts.take j).map ST=ts.map ST:=by rw[ado (by have:=aI.out;omega)]
   rw[hfull]at hrel;have HR3:=ah hrel;clear hj hrel hfull HR;go_wp2
   have hb:=(JH HR3.res (.int .i64 k0) (.int .i64 n0) (.string z) (.slice As k cs) (.slice At j ct))
   have hon:=JI wr (w.heap.size+1) (.int .i64 k0) (.int .i64 n0) (.string z) (.slice As k cs) (.slice At j ct)
   have hB3:=HR3.res
   have nt: ∀{e:TypeId},e≠37-> ∀g c t fz,some (w.heap.size+1)=some g->wr.heap[g]?=some (.cells c t fz)->t≠e:=fun he g c t fz e hc=>by
    cases e;unfold au at hB3;rw[hB3]at hc;cases hc;exact Ne.symm he
   refine ret_val Tryz.results142 rfl hb ⟨_,rfl,kD.out _ _ _ ?_ (aW HR3.own hon (nt (by decide))) (aW HR3.owt hon (nt (by decide))), ?_⟩
   ·exact HR3.bel.grown hon HR3.bel.size (fun j e=>by cases e;omega)
   exact HR3.bel.grown hon HR3.bel.size (fun j e=>by cases e;omega)
  |succ g=>
   have hjn:j<tn:=by omega
   have Az:(j:Int)<tn:=by omega
   have hjl:j<ts.length:=by rw[aI.out];exact hjn
   obtain⟨p,o,x,rfl,AA,hx,hp⟩:=xC.out.cell hjn;rw[adX,dF hjl]at hx
   obtain rfl:=(ad4 hx).symm;obtain⟨y,hy⟩:=aj (ts[j]);rw[hy]at hp
   have htk:(ts.take (j+1)).map ST=(ts.take j).map ST++[ST y]:=by rw[afC hjl,ad8,hy];rfl
   have iG:=ah htk;have hp':=(hrel.bel.cell (p:=⟨p,o+j,none⟩) (adW AA hB)).trans hp
   unfold ST at hp';have HD:=ah hrel.drew;obtain⟨zy,hzy⟩:=aj (⟨y.toArray⟩:ByteArray)
   rw[hzy]at hp';have Qp:=(hrel.arg.alloc (.cells #[.string zy] 9)).cell 4
   have lb4:=(hrel.fG.alloc (.cells #[.string zy] 9)).cell 4
   have lp:=(((Below.refl wr.heap.size wr).alloc (ac4 _) (.cells #[.string zy] 9)).cell (Tf hp')).trans hp'
   simp at Qp lb4;have KG:=ah hzy
   clear hx hj hjl hy htk hrel hp e0 e1 e2 e3 e4 g0 g1 g2 g3 g4 hzy;go_wp2_with fail
   go_region_law (refine EY rfl (.tmp 38) (.tmp 44) 34 9 (.string ⟨#[]⟩) 16 Tryz.underlying34 TI rfl (by decide) rfl (w.heap.size+3) (.slice At j ct) j _ wr.drew rfl HD.owt (.string zy) rfl rfl (by omega) hbig ?_;intro v1 w1 hown1 fH _ eX;obtain⟨A9,c9,rfl⟩:=aF hown1;obtain⟨d3,FD,hnx⟩:=HD.txt hown1 fH eX)
   all_goals
    have gW:=ah hnx;clear hown1 fH eX d3 FD hnx;go_wp2
    go_roundg g
    case measure=>omega
    exact⟨j+1,_,int_eq' (by omega),by have:=HJ.out;omega,by rw[iG.out];unfold ST;rw[KG.out];exact gW.out⟩
 |succ g=>
  have hkn:k<nn:=by omega
  have dH:(k:Int)<nn:=by omega
  have hkl:k<ns.length:=by rw[aC.out];exact hkn
  obtain⟨p,o,x,rfl,AA,hx,hp⟩:=xB.out.cell hkn;rw[adX,dF hkl]at hx
  obtain rfl:=(ad4 hx).symm;obtain⟨y,hy⟩:=aj (ns[k]);rw[hy]at hp
  have htk:(ns.take (k+1)).map I64=(ns.take k).map I64++[I64 y]:=by rw[afC hkl,ad8,hy];rfl
  have iG:=ah htk;have hp':=(hrel.bel.cell (p:=⟨p,o+k,none⟩) (adW AA hB)).trans hp
  unfold I64 at hp';have HD:=ah hrel.drew
  have zG:=(hrel.arg.alloc (.cells #[.int .i64 y] 2)).cell 3
  have lb3:=(hrel.fG.alloc (.cells #[.int .i64 y] 2)).cell 3
  have lp:=(((Below.refl wr.heap.size wr).alloc (ac4 _) (.cells #[.int .i64 y] 2)).cell (Tf hp')).trans hp'
  simp at zG lb3;clear hx hk hkl hy htk hrel hp;go_wp2_with fail
  go_region_law (refine EY rfl (.tmp 21) (.tmp 27) 35 2 (.int .i64 0) 8 Tryz.underlying35 TG rfl (by decide) rfl (w.heap.size+3) (.slice As k cs) k _ wr.drew rfl HD.own (.int .i64 y) rfl rfl (by omega) hbig ?_;intro v1 w1 hown1 fH _ eX;obtain⟨A9,c9,rfl⟩:=aF hown1;obtain⟨d3,FD,hnx⟩:=HD.num hown1 fH eX)
  all_goals
   have gW:=ah hnx;clear hown1 fH eX d3 FD hnx;go_wp2
   go_roundg g
   case measure=>omega
   exact⟨k+1,_,int_eq' (by omega),by have:=HK.out;omega,by rw[iG.out];exact gW.out⟩
end Go.Proofs.YtkdakckjafomhaaGreatDoor
