/- Lemmas. -/
import Derived.Test.YtdijgcnlbfgkdaaGreatDoorUP34
set_option maxHeartbeats 64000000
set_option maxRecDepth 1000000
set_option linter.all false
namespace Go.Proofs.YtdijgcnlbfgkdaaGreatDoor
open Go.RowKit Go.Proofs.Tryz
def qH (B n:Nat) (w:World) (e:Ending) (w':World):Prop:= ∃(A':Option Addr) (c':Nat) (l':List UInt8),e=.returned (.slice A' n c')/\OwnB B (.slice A' n c') l' w'/\l'.length=n/\Below B w w'
def amx (m:Nat) (hm:m<=65535): ∃y1 y2:UInt8,(m:Int).tdiv 256=(y1.toNat:Int)/\(m:Int).tmod 256=(y2.toNat:Int):=by
 refine⟨UInt8.ofNat (m / 256),UInt8.ofNat (m % 256), ?_, ?_⟩
 ·rw[aoh (show m / 256<UInt8.size from aqa (Nat.lt_succ_of_le hm))]
  exact(arP m 256).symm
 rw[aoh (show m % 256<UInt8.size from arS _ (by decide))]
 exact(Int.ofNat_tmod m 256).symm
def Ll (y:UInt8):wrap64 (y.toNat:Int)=y.toNat/\(y.toNat:Int) % 256=y.toNat:=by
 have h:y.toNat<256:=y.toNat_lt;exact⟨IntWalk.wrap64_in _ (by omega),by omega⟩
def ad4 (B:Nat) (A:Option Addr) (c n m:Nat) (s:ByteArray) (l:List UInt8) (w:World) (h:OwnB B (.slice A n c) l w) (h1:l.length=n) (hn:n<=536870912) (hs:s.size=m) (hm:m<=65535) (hB:B<=w.heap.size):
  Calls prog 215 #[.slice A n c,.string s] w (qH B (n+2+m) w):=by
 have H:=ah h;have HL:=ah h1;have MG:(m:Int)<=65535:=by omega
 have HS:=ah hs;obtain⟨y1,y2,hq1,hq2⟩:=amx m hm;obtain⟨hw0,hw1⟩:=Ll y1;have hln:l.length<1073741824:=by clear hq1 hq2 hw0 hw1;omega
 have JC:=ah (show∀k,k<=m->n+2+k<1073741824 from fun k hk=>by clear hq1 hq2 hw0 hw1;omega)
 clear h h1;go_enter func215,ntmps215;go_wp2_with (at_builtin;refine FH rfl (.tmp 6) (.tmp 15) rfl B (.slice A n c) l w rfl H.out [y1,y2] _ (by simp[Lib.byteCells,(Ll y2).2]) 2 rfl rfl hln (by decide) hB ?_)
 intro v9 w9 aY bC aB;have zD:(l++[y1,y2]).length=n+2:=by rw[aeo,HL.out];rfl
 obtain⟨A9,c9,E8⟩:=aY.form;rw[zD]at E8;subst E8;have H0:=ah (show qH B (n+2+0) w (.returned (.slice A9 (n+2) c9)) w9 from⟨A9,c9,_,rfl,aY,zD,aB⟩)
 clear aY bC aB zD hln hq1 hq2 hw0 hw1;go_wp2_with fail
 go_loopg [0,5] m (fun g v x wr=> ∃(k:Nat) (A':Option Addr) (c':Nat),v=.slice A' (n+2+k) c'/\x=.int .i64 k/\k+g=m/\qH B (n+2+k) w (.returned (.slice A' (n+2+k) c')) wr)
 case atStart=>exact⟨0,A9,c9,rfl,rfl,by omega,H0.out⟩
 obtain⟨k,A',c',rfl,rfl,hk,A2,c2,l2,he,ho,hl,hb⟩:=hrel;cases he;refine gq3 ho hl hb fun HO HL2 HB=>?_;clear ho hl hb H0;cases gk with
 |zero=>
  obtain rfl:k=m:=by omega
  clear hk;go_wp2;go_ret;exact⟨_,_,_,rfl,HO.out,HL2.out,HB.out⟩
 |succ g=>
  have hkm:k<m:=by omega
  have ag5:(k:Int)<m:=by omega
  have pk:(0:Int)<=(k:Int):=by omega
  have tk:((k:Int)).toNat=k:=by omega
  have hks:k<s.size:=by rw[HS.out];exact hkm
  obtain⟨y,hy⟩:=aj (s[k]'hks);have HK:=ah hk;have hl2:l2.length<1073741824:=by rw[HL2.out];exact JC.out k (by omega)
  have hBr:B<=wr.heap.size:=aep hB HB.size;clear hk hkm;go_wp2_with (at_builtin;refine FH rfl (.tmp 23) (.tmp 27) rfl B (.slice A' (n+2+k) c') l2 wr rfl HO.out [y] _ (by simp[Lib.byteCells]) 1 rfl rfl hl2 (by decide) hBr ?_)
  intro v8 w8 rE lG hb8;have rD:(l2++[y]).length=n+2+(k+1):=by rw[aeo,HL2.out];rfl
  obtain⟨A8,c8,E9⟩:=rE.form;rw[rD]at E9;subst E9;have H8:=ah (show qH B (n+2+(k+1)) w (.returned (.slice A8 (n+2+(k+1)) c8)) w8 from⟨A8,c8,_,rfl,rE,rD,HB.trans hb8⟩)
  clear rE lG hb8 rD hl2 hBr;go_wp2
  go_roundg g
  case measure=>omega
  exact⟨k+1,A8,c8,rfl,rfl,by have:=HK.out;omega,H8.out⟩
def ap2 (w:World):Calls prog 261 #[.int .i64 8] w fun e w'=>e=.returned (.bool true)/\Below w.heap.size w w':=by
 go_enter func261,ntmps261;go_wp2;go_ret;exact⟨rfl,by first|exact aoa _ _|exact below_drewN (aoa _ _) _⟩
def amy (l:List UInt8) (i:Nat) (y:UInt8):(Lib.byteCells l).set i (.int .u8 (y.toNat:Int))=Lib.byteCells (l.set i y):=by
 unfold Lib.byteCells;rw[List.map_set]
def amA (v:Nat): ∃y:UInt8,(v:Int).tmod 256=(y.toNat:Int):=by
 refine⟨UInt8.ofNat (v % 256), ?_⟩;rw[aoh (show v % 256<UInt8.size from arS _ (by decide))]
 exact(Int.ofNat_tmod v 256).symm
def ap3 (v:Nat) (w:World) (hv:v<18446744073709551616):
  Calls prog 245 #[.int .i64 8,.int .u64 v] w (qH w.heap.size 8 w):=by
 have HV:=ah hv;have HW:=ah (fun(X:World)=>ap2 X)
 have H0:=ah (show qH w.heap.size 0 w (.returned (.slice (some ⟨w.heap.size,0,none⟩) 0 0)) (w.alloc (.cells #[] 5)) from⟨_,_,[],rfl,qB w 5 1,rfl,(aoa _ w).alloc (aej _) _⟩)
 clear hv;go_enter func245,ntmps245;go_wp2_with fail;refine mq7 (HW.out _) fun w1 hb1=>?_
 have H1:=ah (show qH w.heap.size 0 w (.returned (.slice (some ⟨w.heap.size,0,none⟩) 0 0)) w1 from by
  obtain⟨A',c',l',he,ho,hl,hb⟩:=H0.out
  exact⟨A',c',l',he,own_below ho hb1,hl,hb.trans (hb1.mono hb.size)⟩)
 clear hb1 H0;go_wp2_with fail
 go_loopg [5,6] 8 (fun g v x wr=> ∃(k:Nat) (A':Option Addr) (c':Nat),v=.slice A' k c'/\x=.int .i64 k/\k+g=8/\qH w.heap.size k w (.returned (.slice A' k c')) wr)
 case atStart=>exact⟨0,_,_,rfl,rfl,by omega,H1.out⟩
 obtain⟨k,A',c',rfl,rfl,hk,A2,c2,l2,he,ho,hl,hb⟩:=hrel;cases he;refine gq3 ho hl hb fun HO HL2 HB=>?_;clear ho hl hb H1;cases gk with
 |zero=>
  obtain rfl:k=8:=by omega
  have H8:=ah (show qH w.heap.size 8 w (.returned (.slice A' 8 c')) wr from⟨_,_,_,rfl,HO.out,HL2.out,HB.out⟩)
  clear HO HL2 HB hk;go_wp2_with fail
  go_loopg [1,7] 8 (fun g y x wq=> ∃(u:Nat),y=.int .u64 u/\x=.int .i64 ((g:Int) - 1)/\g<=8/\Hid (u<18446744073709551616)/\qH w.heap.size 8 w (.returned (.slice A' 8 c')) wq)
  case atStart=>exact⟨v,rfl,rfl,by omega,HV.out,H8.out⟩
  obtain⟨u,rfl,rfl,hk,hu,A2,c2,l2,he,ho,hl,hb⟩:=hrel;cases he;have HU:Hid (u<18446744073709551616):=hu;refine gq3 ho hl hb fun HO HL2 HB=>?_;clear ho hl hb H8 hu;cases gk with
  |zero=>
   clear hk;go_wp2;go_ret;exact⟨_,_,_,rfl,HO.out,HL2.out,HB.out⟩
  |succ g=>
   have hg1:((g+1:Nat):Int) - 1=(g:Int):=by omega
   rw[hg1];have hgI:(g:Int)<8:=by omega
   have pg:(0:Int)<=(g:Int):=by omega
   have tg:((g:Int)).toNat=g:=by omega
   have lG:g<8:=by omega
   obtain⟨y,hy⟩:=amA u;have hy2:=(Ll y).2;have hq:(u:Int).tdiv 256=((u / 256:Nat):Int):=(arP u 256).symm;obtain⟨u2,hu2⟩:=aj (u / 256);rw[hu2]at hq;have bU:=ah (show u2<18446744073709551616 by rw[<-hu2];exact aqw (arN _ _) HU.out)
   have ho:=HO.out;unfold OwnB at ho;rw[HL2.out]at ho;obtain⟨b,rfl,hbl,hcell,hfr,hset⟩:=yh (t:=g) ho (by omega)
   have hc0: ∃x,wr.cell? ⟨b,g,none⟩=some x:=⟨_,hcell.trans (aen (by simp[Lib.byteCells,HL2.out];omega))⟩
   obtain⟨x0,hx0⟩:=hc0;have hs9:=hset (.int .u8 (y.toNat:Int));rw[amy]at hs9;have HN:=ah (show qH w.heap.size 8 w (.returned (.slice (some ⟨b,0,none⟩) 8 c')) (wr.setCell ⟨b,g,none⟩ (.int .u8 (y.toNat:Int))) from⟨_,_,_,rfl,by unfold OwnB;rw[arO,HL2.out];exact hs9,by rw[arO];exact HL2.out,HB.setCell (p:=⟨b,g,none⟩) hbl _⟩)
   have HK:=ah hk;clear ho hcell hset hs9 hk hu2 hbl lG hg1;go_wp2_with fail
   go_roundg g
   case measure=>omega
   exact⟨u2,by rw[IntWalk.u64_in _ (by have:=bU.out;omega)],rfl,by have:=HK.out;omega,bU.out,HN.out⟩
 |succ g=>
  have hkm:k<8:=by omega
  have ag5:(k:Int)<8:=by omega
  have HK:=ah hk;have hl2:l2.length<1073741824:=by rw[HL2.out];omega
  have hBr:w.heap.size<=wr.heap.size:=HB.size;clear hk hkm;go_wp2_with (at_builtin;refine FH rfl (.tmp 18) (.tmp 19) rfl w.heap.size (.slice A' k c') l2 wr rfl HO.out [0] _ (by simp[Lib.byteCells]) 1 rfl rfl hl2 (by decide) hBr ?_)
  intro v8 w8 rE lG hb8;have rD:(l2++[0]).length=k+1:=by rw[aeo,HL2.out];rfl
  obtain⟨A8,c8,E9⟩:=rE.form;rw[rD]at E9;subst E9;have H8:=ah (show qH w.heap.size (k+1) w (.returned (.slice A8 (k+1) c8)) w8 from⟨A8,c8,_,rfl,rE,rD,HB.trans hb8⟩)
  clear rE lG hb8 rD hl2 hBr;go_wp2
  go_roundg g
  case measure=>omega
  exact⟨k+1,A8,c8,rfl,rfl,by have:=HK.out;omega,H8.out⟩
def OL (W:World) (g off m:Nat):Prop:= ∀j,j<m-> ∃y:UInt8,W.cell? ⟨g,off+j,none⟩=some (.int .u8 (y.toNat:Int))
def OL.grown {W W':World} {g off m:Nat} {row:Option Nat} (h:OL W g off m) (hg:W.grownBy W' row) (hne:some g≠row):OL W' g off m:=fun j hj=>by
 obtain⟨y,hy⟩:=h j hj;have hlt:g<W.heap.size:=arV W ⟨g,off+j,none⟩ hy;refine⟨y, ?_⟩;have hb:=hg.block g hlt hne;simp only[World.cell?,hb]at hy⊢;exact hy
def amB (x:Int): ∃v:Nat,v<18446744073709551616/\IntKind.u64.wrap x=(v:Int):=by
 have e:IntKind.u64.wrap x=x % 18446744073709551616:=by rw[asZ]
 exact⟨(x % 18446744073709551616).toNat,by omega,by rw[e];omega⟩
def Td (B n k m g off:Nat) (w:World) (A:Option Addr) (c:Nat) (V:World):Prop:= ∃l:List UInt8,OwnB B (.slice A (n+k) c) l V/\l.length=n+k/\Below B w V/\OL V g off m/\(Value.slice A (n+k) c).ownBlock≠some g
def ad5 (B:Nat) (A:Option Addr) (c n:Nat) (kd x:Int) (l:List UInt8) (w:World) (h:OwnB B (.slice A n c) l w) (h1:l.length=n) (hn:n<=536870912) (hB:B<=w.heap.size):
  Calls prog 214 #[.slice A n c,.int .i64 kd,.int .i64 x] w (qH B (n+(if kd=1 then 1 else 8)) w):=by
 obtain⟨v,hv,hw⟩:=amB x;refine gq5 (ap3 v w hv) h h1 hn hB fun vS H HL HN aN=>?_;obtain⟨m,hm⟩:=aj (if kd=1 then 1 else 8)
 rw[hm];have HM:=ah hm;clear hv h h1 hn hB hm;go_enter func214,ntmps214;go_wp2_with fail;refine vS.mono ?_;rintro e w1 ⟨A1,c1,l1,rfl,ho,hl,hb⟩;have HX:=ah (And.intro ho (And.intro hl hb));clear ho hl hb vS hw
 have hX: ∃g,A1=some ⟨g,0,none⟩/\w.heap.size<=g/\OL w1 g 0 8/\8<=c1:=by
  obtain⟨ho,hl,hb⟩:=HX.out;unfold OwnB at ho;rw[hl]at ho
  rcases ho.2 with⟨e,h0⟩|⟨g,cap,cur,e,hg,hc,q1,q2,q3⟩
  ·exact absurd h0 (by decide)
  cases e;refine⟨g,rfl,hg,fun j hj=> ?_,by first|exact q1|exact q2|omega⟩
  obtain⟨g',e',-,hcl,-⟩:=yh (t:=j) ho (by omega)
  cases e';exact⟨l1[j]'(by rw[hl];exact hj),by rw[agO,hcl];unfold Lib.byteCells;rw[aeY,aen (by rw[hl];exact hj)];rfl⟩
 obtain⟨g,rfl,hgw,hby,hc1⟩:=hX;have HY:=ah (show∀off,off+m<=8->Td B n 0 m g off w A c w1 from fun off ho=>⟨l,own_below H.out HX.out.2.2,HL.out,HX.out.2.2.mono aN.out,fun j hj=>by have:=hby (off+j) (by omega);rwa [agO]at this,fun e=>by have:=(ar5 H.out g e).2;omega⟩)
 clear hby hgw HX;obtain⟨tb,htb⟩:=aj (kd == 1)
 go_upto_if 13 with fail
 go_cut [7] (fun s7 wx=> ∃(off cx:Nat),s7=.slice (some ⟨g,off,none⟩) m cx/\Td B n 0 m g off w A c wx)
 case first=>
  cases tb with
  |true=>
   have hm1:m=1:=by rw[<-HM.out,aeu (afc.1 htb)]
   subst hm1;have asg:(8:Int)<=c1:=by omega
   clear htb;refine aty rfl ?_;go_wp2;go_meet;exact⟨7,c1 - 7,by simp,HY.out 7 (by omega)⟩
  |false=>
   have hm8:m=8:=by rw[<-HM.out,aer (fun e=>by rw[e]at htb;cases htb)]
   subst hm8;clear htb;refine atv rfl ?_;go_wp2;go_meet;exact⟨0,c1,rfl,HY.out 0 (by omega)⟩
 obtain⟨off,cx,rfl,hs⟩:=hcut;have HS:=ah hs;have HM8:=ah (show m<=8 by rw[<-HM.out];split<;>omega)
 clear hs HY;go_wp2_with fail
 go_loopg [0,8] m (fun q v x wr=> ∃(k:Nat) (A':Option Addr) (c':Nat),v=.slice A' (n+k) c'/\x=.int .i64 k/\k+q=m/\Td B n k m g off w A' c' wr)
 case atStart=>exact⟨0,A,c,rfl,rfl,by omega,HS.out⟩
 obtain⟨k,A',c',rfl,rfl,hk,l2,ho,hl,hb,hy,hne⟩:=hrel;refine gq5 ho hl hb hy hne fun HO HL2 HB HY mG=>?_;clear ho hl hb hy hne HS;cases gk with
 |zero=>
  obtain rfl:k=m:=by omega
  clear hk;go_wp2;go_ret;exact⟨_,_,_,rfl,HO.out,HL2.out,HB.out⟩
 |succ q=>
  have hkm:k<m:=by omega
  have ag5:(k:Int)<m:=by omega
  have pk:(0:Int)<=(k:Int):=by omega
  have tk:((k:Int)).toNat=k:=by omega
  obtain⟨y,hy⟩:=HY.out k hkm;have hlt:g<wr.heap.size:=arV wr ⟨g,off+k,none⟩ hy;have hl2:n+k<1073741824:=by have:=HN.out;have:=HM8.out;omega
  have hBr:B<=wr.heap.size:=aep aN.out HB.size;have HK:=ah hk;have aA:=ah hlt;have ho:=HO.out;unfold OwnB at ho;rw[HL2.out]at ho;have lW:=ah ho;clear hk hkm hlt ho;go_wp2_with (at_builtin;refine jD rfl (.tmp 22) (.tmp 27) 76 5 (.int .u8 0) 1 asK Vy rfl (by decide) rfl B (.slice A' (n+k) c') (n+k) (Lib.byteCells l2) wr rfl lW.out (.int .u8 (y.toNat:Int)) rfl rfl hl2 hBr ?_)
  intro v9 w9 aY bC iq aB;obtain⟨A9,c9,rfl⟩:=aH aY
  have H9:=ah (show Td B n (k+1) m g off w A9 c9 w9 from⟨l2++[y],by unfold OwnB;rw[aa3,byteCells_one,aeo,HL2.out];exact aY,by rw[aeo,HL2.out];rfl,HB.trans aB,HY.grown bC (fun e=>mG.out e.symm),fun e=>by
   rcases iq with h|⟨b,h,hb⟩
   ·exact mG.out (h.symm.trans e)
   have e2:b=g:=aeM (h.symm.trans e);have:=aA.out
   omega⟩)
  clear aY bC iq aB hl2 hBr hy;go_wp2
  go_roundg q
  case measure=>omega
  exact⟨k+1,A9,c9,rfl,by rw[IntWalk.wrap64_in _ (by have:=HM8.out;have:=HK.out;omega)];rfl,by have:=HK.out;omega,H9.out⟩
def amC (k n:Int) (t:List UInt8) (ns:List Int) (ts:List (List UInt8)):Gr.qw ⟨k,n,t,ns,ts⟩=if k<4 then 1+(if k=1 then 1 else 8) else if k=4 then 3+t.length else 2+ns.length*(if k - 4=1 then 1 else 8)+(ts.map fun t=>2+t.length).sum:=by
 unfold Gr.qw;simp only;by_cases h4:k<4
 ·rw[aeu h4,aeu h4]
  by_cases h1:k=1
  ·rw[aeu h1,aeu h1]
  rw[aer h1,aer h1]
 rw[aer h4,aer h4];by_cases h6:k=5
 ·rw[aeu h6,aeu (show k - 4=1 by omega)]
 rw[aer h6,aer (show¬k - 4=1 by omega)]
def amD (B:Nat) (u:Value) (v:au.V) (w:World) (h:qM w B u v) (hB:B<=w.heap.size) (h0:au.check v=0):
  Calls prog 170 #[u] w fun e w'=> ∃A c,e=.returned (.slice A (Gr.qw v) c)/\Below w.heap.size w w':=by
 obtain⟨hp1,xG,-,EF,BR,htl,kK,-⟩:=au.TY h0;have hch:=fun(W:World) (hb:Below w.heap.size w W)=>Uu B u v W (h.below (hb.mono hB)) (aep hB hb.size)
 rw[h0]at hch;obtain⟨A1,c1,A2,c2,rfl,dK,dN⟩:=h.ex;obtain⟨k0,n0,t0,ns,ts⟩:=v;simp only at hch dK dN hp1 xG EF BR htl kK⊢;obtain⟨y,rfl⟩: ∃y:UInt8,k0=(y.toNat:Int):=⟨UInt8.ofNat k0.toNat,by rw[aoh (show k0.toNat<UInt8.size from by show k0.toNat<256;omega)];omega⟩
 obtain⟨z,hz⟩:=aj (⟨t0.toArray⟩:ByteArray);have hzs:z.size=t0.length:=by rw[<-hz];exact dR _
 rw[hz]at hch⊢;obtain⟨nn,hnn⟩:=aj ns.length;obtain⟨tn,htn⟩:=aj ts.length;rw[hnn]at hch EF dK⊢;rw[htn]at hch BR dN⊢;obtain⟨W1,hW1⟩:=aj ((w.alloc (.cells #[.int .i64 (y.toNat:Int),.int .i64 n0,.string z,.slice A1 nn c1,.slice A2 tn c2] 43)).alloc (.cells #[] 5));have hb1:Below w.heap.size w W1:=by rw[<-hW1];exact((aoa _ w).alloc (aej _) _).alloc (by simp) _
 have k1:ak W1 w.heap.size 43 #[.int .i64 (y.toNat:Int),.int .i64 n0,.string z,.slice A1 nn c1,.slice A2 tn c2]:=by rw[<-hW1];exact(ak.new _ _ _).alloc _
 have o1:OwnB (w.heap.size+1) (.slice (some ⟨w.heap.size+1,0,none⟩) 0 0) [] W1:=by
  have:=qB (w.alloc (.cells #[.int .i64 (y.toNat:Int),.int .i64 n0,.string z,.slice A1 nn c1,.slice A2 tn c2] 43)) 5 1;rw[hW1]at this
  simpa[OwnB,Lib.byteCells] using this
 refine gq7 (hch W1 hb1) k1 hb1 o1 hW1 (dK.below (hb1.mono hB)) (dN.below (hb1.mono hB)) fun GU dw HB1 lH HW1 HR1 HR2=>?_;obtain⟨E,G6⟩:=aj (Gr.qw ⟨(y.toNat:Int),n0,t0,ns,ts⟩);rw[G6];have uQ:=ah G6;have ZB:=amC (y.toNat:Int) n0 t0 ns ts;rw[G6,<-hzs,hnn]at ZB;refine gq4 ZB (VB kK) htn hB fun HEP G7 aW dG=>?_;clear h hch dK dN hW1 hb1 k1 o1 h0 hz G6 ZB kK hnn htn hB;go_enter func170,ntmps170
 go_upto_region 2 with fail
 rw[HW1.out];clear HW1;obtain⟨d0,d1,d2,d3,d4⟩:=cells5 dw.out;go_wp2_with fail;refine mq8 GU fun w2 hb2=>?_;have HB2:=ah (HB1.trans (hb2.mono HB1.size));have aP:=ah (dw.below hb2 dw.lt);have lW:=ah (show OwnB (w.heap.size+1) (.slice (some ⟨w.heap.size+1,0,none⟩) 0 0) [] w2 from own_below lH.out hb2)
 have HR3:=ah (And.intro (HR1.below (hb2.mono (aep dG.out HB1.size))) (HR2.below (hb2.mono (aep dG.out HB1.size))));have hlt2:w.heap.size+1<=w2.heap.size:=aP.lt;clear d0 d1 d2 d3 d4 hb2 HR1 HR2 lH dw;obtain⟨d0,d1,d2,d3,d4⟩:=cells5 aP.out;have hw2:=(Ll y).2;go_wp2_with (at_builtin;refine FH rfl (.tmp 11) (.tmp 15) rfl (w.heap.size+1) (.slice (some ⟨w.heap.size+1,0,none⟩) 0 0) [] w2 rfl lW.out [y] _ (by simp[Lib.byteCells]) 1 rfl rfl (by decide) (by decide) hlt2 ?_)
 intro v9 w9 aY bC aB;obtain⟨A9,c9,E8⟩:=aY.form;have E8:v9=.slice A9 1 c9:=E8;subst E8;refine gq4 (aP.below aB (aeX _)) (HB2.trans (aB.mono (ahy _))) aY (And.intro (HR3.out.1.below (aB.mono (aep dG.out (ahy _)))) (HR3.out.2.below (aB.mono (aep dG.out (ahy _))))) fun mP cZ oP xE=>?_;have OM:w.heap.size+1<=w9.heap.size:=mP.lt;clear d0 d1 d2 d3 d4 aY bC aB aP lW HB2 HR3;obtain⟨d0,d1,d2,d3,d4⟩:=cells5 mP.out;have qJ:=ah (And.intro hzs htl);by_cases h4:y.toNat<4
 ·have ZC:(y.toNat:Int)<4:=by omega
  have t4:decide ((y.toNat:Int)<4)=true:=aei ZC;have hln:=ad5 (w.heap.size+1) A9 c9 1 (y.toNat:Int) n0 _ w9 oP.out rfl (by omega) OM
  obtain⟨RL,hRL⟩:=aj (if(y.toNat:Int)=1 then 1 else 8)
  rw[hRL]at hln;have bT:=ah hln;have aZ:=ah hRL;clear hln
  have HE:=ah (show Gr.qw ⟨(y.toNat:Int),n0,t0,ns,ts⟩=1+(if(y.toNat:Int)=1 then 1 else 8) by
   unfold Gr.qw;rw[aeu ZC];by_cases h1:(y.toNat:Int)=1
   ·rw[aeu h1,aeu h1]
   rw[aer h1,aer h1])
  rw[hRL,uQ.out]at HE;clear htl hzs EF BR h4 hRL;go_wp2_with fail;refine bT.mono ?_;rintro e w3 ⟨A3,c3,l3,rfl,-,-,hb3⟩;have HB3:=ah (cZ.trans (hb3.mono (ahy _)));clear hb3;go_wp2;go_ret;exact⟨A3,c3,by rw[HE.out];rfl,HB3.out⟩
 have ZC:(4:Int)<=(y.toNat:Int):=by omega
 have t4:decide ((y.toNat:Int)<4)=false:=dF (by omega)
 by_cases h5:y.toNat=4
 ·have t5:((y.toNat:Int) == 4)=true:=by rw[afc];omega
  have J8:=ah (ad4 (w.heap.size+1) A9 c9 1 z.size z _ w9 oP.out rfl (by omega) rfl (by omega) OM)
  have HE:=ah (show E=1+2+z.size by rw[HEP.out,aer (by omega),aeu (by omega)])
  clear htl hzs EF BR h4 h5;go_wp2_with fail;refine J8.mono ?_;rintro e w3 ⟨A3,c3,l3,rfl,-,-,hb3⟩;have HB3:=ah (cZ.trans (hb3.mono (ahy _)));clear hb3;go_wp2;go_ret;exact⟨A3,c3,by rw[HE.out];rfl,HB3.out⟩
 have Df:(nn:Int)<=40:=Int.ofNat_le.2 EF;have htI:(tn:Int)<=40:=Int.ofNat_le.2 BR;have t5:((y.toNat:Int) == 4)=false:=aek.2 (by omega)
 have h5i:(5:Int)<=(y.toNat:Int):=by omega
 obtain⟨kd,hkd⟩:=aj ((y.toNat:Int) - 4);have asj:1<=kd:=by omega
 have asl:kd<=4:=by omega
 have hwk:IntKind.i64.wrap kd=kd:=as1 _ (by omega)
 obtain⟨yc,hyc⟩: ∃yc:UInt8,(nn:Int)+(tn:Int)=(yc.toNat:Int):=⟨UInt8.ofNat (nn+tn),by rw[aoh (show nn+tn<UInt8.size from by show nn+tn<256;omega)];omega⟩
 obtain⟨hw0,hw1⟩:=Ll yc;obtain⟨L,hL⟩:=aj (if kd=1 then 1 else 8)
 have hL8:L<=8:=by rw[<-hL];split<;>omega
 have HE:=ah (show E=2+nn*L+(ts.map fun t=>2+t.length).sum by rw[HEP.out,aer (by omega),aer (by omega),hkd,hL])
 have bY:=ah hL;clear htl hzs hL h4 h5;go_wp2_with (at_builtin;refine FH rfl (.tmp 33) (.tmp 42) rfl (w.heap.size+1) (.slice A9 1 c9) ([]++[y]) w9 rfl oP.out [yc] _ (by simp[Lib.byteCells]) 1 rfl rfl (by simp) (by decide) OM ?_)
 intro v8 w8 rE lG hb8;have rD: [y,yc].length=2:=rfl;obtain⟨A8,c8,E9⟩:=rE.form;rw[rD]at E9;subst E9;have H8:=ah (show qH (w.heap.size+1) 2 w9 (.returned (.slice A8 2 c8)) w8 from⟨A8,c8,_,rfl,rE,rD,hb8⟩)
 have AB:=ah (fun(W:World) (hb:Below (w.heap.size+1) w9 W)=>cells5 (mP.below hb (aeX _)))
 have ql:=ah (fun(W:World) (hb:Below (w.heap.size+1) w9 W)=>(And.intro (xE.out.1.below (hb.mono (aep dG.out (ahy _)))) (xE.out.2.below (hb.mono (aep dG.out (ahy _))))))
 have ZE:=ah (show w.heap.size+1<=w9.heap.size/\Below (w.heap.size+1) w9 w8 from⟨OM,hb8⟩)
 clear rE lG hb8 rD hw0 hw1 hyc OM hw2 d0 d1 d2 d3 d4 hlt2;obtain⟨d0,d1,d2,d3,d4⟩:=AB.out w8 ZE.out.2;go_wp2_with fail
 go_loopg [3,4] nn (fun g v x wr=> ∃(k:Nat) (A':Option Addr) (c':Nat),v=.slice A' (2+k*L) c'/\x=.int .i64 k/\k+g=nn/\qH (w.heap.size+1) (2+k*L) w9 (.returned (.slice A' (2+k*L) c')) wr)
 case atStart=>exact⟨0,A8,c8,by rw[aop],rfl,by omega,by rw[aop];exact H8.out⟩
 obtain⟨k,A',c',rfl,rfl,hk,A2,c2,l2,he,ho,hl,hb⟩:=hrel;cases he;refine gq4 ho hl hb hk fun HO HL2 HB HK=>?_;clear ho hl hb H8 d0 d1 d2 d3 d4;obtain⟨d0,d1,d2,d3,d4⟩:=AB.out wr HB.out;have NJ:k*L<=40*8:=aoL (by omega) hL8
 have hBr:w.heap.size+1<=wr.heap.size:=aep ZE.out.1 HB.size;cases gk with
 |succ g=>
  have hkn:k<nn:=by omega
  have dW:(k:Int)<nn:=by omega
  have pk:(0:Int)<=(k:Int):=by omega
  have tk:((k:Int)).toNat=k:=by omega
  obtain⟨p,o,x,rfl,hlt,hx,hp⟩:=(ql.out wr HB.out).1.cell hkn;rw[aeY]at hx;obtain⟨v0,hv,rfl⟩:=afr.1 hx;unfold I64 at hp;have hln:=fun(V:World) (hb:Below wr.heap.size wr V)=>ad5 (w.heap.size+1) A' c' (2+k*L) kd v0 l2 V (own_below HO.out hb) HL2.out (by omega) (aep hBr hb.size)
  simp only[bY.out]at hln;have ZF:=ah hln;have dY:=ah (show Below wr.heap.size wr wr.drew from(aoa _ wr).drew)
  have J6:=ah (show Below (w.heap.size+1) wr wr.drew from(aoa _ wr).drew)
  have hpl:p<w.heap.size+1:=ag0 (afn hlt dG.out)
  have HKK:Hid (∀X,Below (w.heap.size+1) wr X->X.cell? ⟨w.heap.size,0,none⟩=some (.int .i64 (y.toNat:Int))/\X.cell? ⟨w.heap.size,3,none⟩=some (.slice (some ⟨p,o,none⟩) nn c1)/\X.cell? ⟨p,o+k,none⟩=some (.int .i64 v0)):=fun X hb=>
   ⟨(hb.cell (p:=⟨w.heap.size,0,none⟩) (aeX _)).trans d0,(hb.cell (p:=⟨w.heap.size,3,none⟩) (aeX _)).trans d3,(hb.cell (p:=⟨p,o+k,none⟩) hpl).trans hp⟩
  have HKL:=ah (show 2+k*L+L=2+(k+1)*L by rw[an1,anL])
  clear hkn hlt hx hv hln NJ hBr hk hpl;go_wp2_with fail
  go_region_held3 (fun w'=>w'.cell? ⟨w.heap.size,0,none⟩=some (.int .i64 (y.toNat:Int))/\w'.cell? ⟨w.heap.size,3,none⟩=some (.slice (some ⟨p,o,none⟩) nn c1)/\w'.cell? ⟨p,o+k,none⟩=some (.int .i64 v0)) (first|go_keep|exact HKK.out _ lM|fail)
   ((first|(go_at_call 214;refine(ZF.out _ dY.out).mono ?_;rintro e w7 ⟨A7,c7,l7,rfl,EX,EY,hb7⟩;have lM:Below (w.heap.size+1) wr w7:=J6.trans hb7;have sK:=ah (And.intro EX EY);clear EX EY hb7)|fail))
  have HQ7:=ah (HB.trans lM);clear lM d0 d1 d2 d3 d4 hp;go_wp2
  go_roundg g
  case measure=>omega
  refine⟨k+1,A7,c7,by rw[<-HKL.out],rfl,by have:=HK.out;omega, ?_⟩
  rw[<-HKL.out];exact⟨A7,c7,l7,rfl,sK.out.1,sK.out.2,HQ7.out⟩
 |zero=>
  obtain rfl:k=nn:=by omega
  obtain⟨M,hM⟩:=aj (2+k*L);have agZ:M<=322:=by omega
  rw[hM]at HO HL2 HE⊢;have H9:=ah (show qH (w.heap.size+1) M w9 (.returned (.slice A' M c')) wr from⟨A',c',l2,rfl,HO.out,HL2.out,HB.out⟩)
  clear NJ hk hM HO HL2;go_wp2_with fail
  go_loopg [3,5] tn (fun g v x wq=> ∃(j:Nat) (A':Option Addr) (c':Nat),v=.slice A' (M+((ts.take j).map fun t=>2+t.length).sum) c'/\x=.int .i64 j/\j+g=tn/\qH (w.heap.size+1) (M+((ts.take j).map fun t=>2+t.length).sum) w9 (.returned (.slice A' (M+((ts.take j).map fun t=>2+t.length).sum) c')) wq)
  case atStart=>exact⟨0,A',c',rfl,rfl,by omega,H9.out⟩
  obtain⟨j,A4,c4,rfl,rfl,hj,A5,c5,l5,he,ho,hl,hb⟩:=hrel;cases he
  have hsum:((ts.take j).map fun t=>2+t.length).sum<=1002*40:=by
   have h1:=VD (l:=ts.take j) (fun t ht=>G7.out t (aoB ht))
   have h2:(ts.take j).length<=40:=by rw[afo];have:=aW.out;omega
   exact aep h1 (ag6 _ h2)
  obtain⟨T,hT⟩: ∃T,((ts.take j).map fun t=>2+t.length).sum=T:=⟨_,rfl⟩
  rw[hT]at ho hl hsum⊢;refine gq5 ho hl hb hj hT fun lW Ju dI HJ HT=>?_;clear ho hl hb H9 d0 d1 d2 d3 d4 hT;obtain⟨d0,d1,d2,d3,d4⟩:=AB.out _ dI.out;cases gk with
  |succ g=>
   have hkn:j<tn:=by omega
   have dW:(j:Int)<tn:=by omega
   have pk:(0:Int)<=(j:Int):=by omega
   have tk:((j:Int)).toNat=j:=by omega
   obtain⟨p,o,x,rfl,hlt,hx,hp⟩:=(ql.out _ dI.out).2.cell hkn;rw[aeY]at hx;obtain⟨v0,hv,rfl⟩:=afr.1 hx;unfold ST at hp;obtain⟨zy,hzy⟩:=aj (⟨v0.toArray⟩:ByteArray);rw[hzy]at hp;have hzl:zy.size=v0.length:=by rw[<-hzy];exact dR _
   have hyl:=G7.out v0 (aew hv);have hln:=ad4 (w.heap.size+1) A4 c4 (M+T) zy.size zy l5 _ lW.out Ju.out (by omega) rfl (by omega) (aep ZE.out.1 dI.size)
   have ZF:=ah hln;have jT:=ah (show M+T+2+zy.size=M+((ts.take (j+1)).map fun t=>2+t.length).sum by rw[acP hv,HT.out,hzl];omega)
   clear hkn hlt hx hv hln hsum hj hzy hzl hyl;go_wp2_with fail;refine ZF.mono ?_;rintro e w7 ⟨A7,c7,l7,rfl,EX,EY,hb7⟩;have sK:=ah (And.intro EX (And.intro EY (dI.trans hb7)));clear EX EY hb7 d0 d1 d2 d3 d4 hp;go_wp2
   go_roundg g
   case measure=>omega
   refine⟨j+1,A7,c7,by rw[<-jT.out],rfl,by have:=HJ.out;omega, ?_⟩
   rw[<-jT.out];exact⟨A7,c7,l7,rfl,sK.out.1,sK.out.2.1,sK.out.2.2⟩
  |zero=>
   obtain rfl:j=tn:=by omega
   have hfin:ts.take j=ts:=aeG (by rw[aW.out];exact aej _)
   have EH:=ah (show E=M+T by rw[HE.out,<-HT.out,hfin])
   have oN:=ah (cZ.trans (dI.mono (ahy _)));clear hj hfin hsum;go_wp2;go_ret;exact⟨A4,c4,by rw[EH.out];rfl,oN.out⟩
def amE {ps:List Gr.P} {k:Nat} {p:Gr.P} (h:ps[k]?=some p):Gr.eP (ps.take (k+1))=Gr.eP (ps.take k)+Gr.qw p.val:=by
 rw[afS,h,KY];simp[Gr.eP]
def ad6 (B:Nat) (A:Option Addr) (c n:Nat) (ps:List Gr.P) (w:World) (h:dD w B 6 (bg w B) A ps) (hl:ps.length=n) (hok: ∀p∈ps,vT p) (h0: ∀p∈ps,au.check p.val=0) (hB:B<=w.heap.size) (hn:n<=1073741824):
  Calls prog 118 #[.slice A n c] w fun e w'=>e=.returned (.int .i64 (Gr.eP ps:Nat))/\Below w.heap.size w w':=by
 refine gq6 (fun(k:Nat)=>show Gr.eP (ps.take k)<=41000*1073741824 from aep (VF (fun p hp=>h0 p (aoB hp))) (ag6 _ (by rw[afo,hl];omega))) h hl hok h0 hB fun HT H HL bF bH aN=>?_
 clear h hl hok h0 hB;go_enter func118,ntmps118;go_wp2_with fail
 go_loopg [3,4] n (fun q s x wr=> ∃k:Nat,s=.int .i64 (Gr.eP (ps.take k):Nat)/\x=.int .i64 k/\k+q=n/\Below w.heap.size w wr)
 case atStart=>exact⟨0,rfl,rfl,by omega,aoa _ _⟩
 obtain⟨k,rfl,rfl,hk,hb⟩:=hrel;have HB:=ah hb;clear hb;have hs:=HT.out k;cases gk with
 |zero=>
  obtain rfl:k=n:=by omega
  have hf:ps.take k=ps:=aeG (by rw[HL.out];exact aej _)
  rw[hf];clear hk hs hf;go_wp2;go_ret;exact⟨rfl,HB.out⟩
 |succ q=>
  have hkn:k<n:=by omega
  have dW:(k:Int)<n:=by omega
  have pk:(0:Int)<=(k:Int):=by omega
  have tk:((k:Int)).toNat=k:=by omega
  obtain⟨p,hp⟩: ∃p,ps[k]?=some p:=⟨_,aen (by rw[HL.out];exact hkn)⟩
  have hm:=aew hp;have hBw:=HB.mono aN.out;obtain⟨b,o,An,cn,At,ct,rfl,hlt,⟨-,p1,p2,p3,p4,p5⟩,ra,rb⟩:=(H.out.below hBw (bg.below hBw)).prop hp;have hen:=amD B _ p.val wr (zX (cn:=cn) (ct:=ct) (bF.out p hm).val ra rb) (aep aN.out HB.size) (bH.out p hm);simp only[ST]at p3 hen;obtain⟨z2,hz2⟩:=aj (⟨p.val.text.toArray⟩:ByteArray);rw[hz2]at p3 hen;obtain⟨E,hE⟩:=aj (Gr.qw p.val);obtain⟨S,hS⟩:=aj (Gr.eP (ps.take k));have hel:=VE (bH.out p hm);rw[hE]at hen hel;rw[hS]at hs⊢;have RP:(S:Int)<=41000*1073741824:=by omega
  have hEi:(E:Int)<=41000:=by omega
  have xK:=ah hen;have Eu:=ah (show Gr.eP (ps.take (k+1))=S+E by rw[amE hp,hS,hE])
  have HK:=ah hk;clear hkn hp hm hBw hlt ra rb hen hz2 hE hS hel hs hk;go_wp2_with fail;refine xK.mono ?_;rintro e w2 ⟨A2,c2,rfl,hb2⟩;have HB2:=ah (HB.trans (hb2.mono HB.size));clear hb2 p1 p2 p3 p4 p5;go_wp2
  go_roundg q
  case measure=>omega
  exact⟨k+1,int_eq (by rw[Eu.out];omega),int_eq (by omega),by have:=HK.out;omega,HB2.out⟩
def ad7 {α:Type} {l:List α} {f:α->List Gr.P} {k:Nat} {a:α} (h:l[k]?=some a):Gr.eP ((l.take (k+1)).flatMap f)=Gr.eP ((l.take k).flatMap f)+Gr.eP (f a):=by
 rw[KW h,KY]
def QG {α:Type} (l:List α) (f:α->List Gr.P) (k:Nat):Gr.eP ((l.take k).flatMap f)<=Gr.eP (l.flatMap f):=by
 conv=>rhs;rw[<-afz k l,afR,KY]
 omega
def amF (B:Nat) (u:Value) (g:Gr.G) (w:World) (h:nN w B u g) (hB:B<=w.heap.size) (hck: ∀p∈Gr.jr g,au.check p.val=0) (hlen:(Gr.jr g).length<=1073741824):
  Calls prog 72 #[u] w fun e w'=>e=.returned (.int .i64 (Gr.weight g:Nat))/\Below w.heap.size w w':=by
 have hok:=h.ok;obtain⟨An,cn,Ar,cr,rfl,hN,hR⟩:=h.ex;have hle:Gr.weight g<=41000*1073741824:=aep (VF hck) (ag6 _ hlen);have hsum:Gr.weight g=Gr.eP (g.nodes.flatMap Gr.N.props)+Gr.eP (g.ay.flatMap Gr.R.props):=by unfold Gr.weight Gr.jr;rw[KY]
 have hcn: ∀n∈g.nodes,∀p∈n.props,au.check p.val=0:=fun n hn p hp=>hck p (ap6 _ (ahd.2 ⟨n,hn,hp⟩))
 have hcr: ∀n∈g.ay,∀p∈n.props,au.check p.val=0:=fun n hn p hp=>hck p (apZ _ (ahd.2 ⟨n,hn,hp⟩))
 obtain⟨nn,hnn⟩:=aj g.nodes.length;obtain⟨rn,hrn⟩:=aj g.ay.length;have hnl:=hok.nl;have hrl:=hok.rl;rw[hnn]at hnl⊢;rw[hrn]at hrl⊢;refine gq9 hN hR hok hcn hcr hnn hrn hsum hle fun HN HR bF wB zh aC fH jT gI=>?_;have aN:=ah hB;have zH:=ah (ak.new w 26 #[.slice An nn cn,.slice Ar rn cr]);have HB0:=ah (show Below w.heap.size w (w.alloc (.cells #[.slice An nn cn,.slice Ar rn cr] 26)) from(aoa _ w).alloc (aej _) _)
 clear h hok hN hR hcn hcr hnn hrn hsum hle hB hck hlen;go_enter func72,ntmps72;go_wp2_with fail
 go_loopg [3,4] nn (fun q s x wr=> ∃k:Nat,s=.int .i64 (Gr.eP ((g.nodes.take k).flatMap Gr.N.props):Nat)/\x=.int .i64 k/\k+q=nn/\Below w.heap.size w wr/\ak wr w.heap.size 26 #[.slice An nn cn,.slice Ar rn cr])
 case atStart=>exact⟨0,rfl,rfl,by omega,HB0.out,zH.out⟩
 obtain⟨k,rfl,rfl,hk,hb,hbk⟩:=hrel;have HB:=ah hb;have dP:=ah hbk;obtain⟨c0,c1⟩:=cells2 hbk;have hs:=QG g.nodes Gr.N.props k;clear hb hbk zH HB0;cases gk with
 |zero=>
  obtain rfl:k=nn:=by omega
  have hf:g.nodes.take k=g.nodes:=aeG (by rw[aC.out];exact aej _)
  rw[hf];obtain⟨T,hT⟩:=aj (Gr.eP (g.nodes.flatMap Gr.N.props));rw[hT]at jT⊢;have asn:T<=41000*1073741824:=by have:=gI.out;have:=jT.out;omega
  clear hk hs hf hT;go_wp2_with fail
  go_loopg [3,5] rn (fun q s x wr=> ∃m:Nat,s=.int .i64 ((T+Gr.eP ((g.ay.take m).flatMap Gr.R.props):Nat):Int)/\x=.int .i64 m/\m+q=rn/\Below w.heap.size w wr/\ak wr w.heap.size 26 #[.slice An k cn,.slice Ar rn cr])
  case atStart=>exact⟨0,rfl,rfl,by omega,HB.out,dP.out⟩
  obtain⟨m,rfl,rfl,hm,hb,hbk⟩:=hrel;have HB2:=ah hb;have ag9:=ah hbk;clear c0 c1;obtain⟨c0,c1⟩:=cells2 hbk;have hs:=QG g.ay Gr.R.props m;clear hb hbk HB dP;cases gk with
  |zero=>
   obtain rfl:m=rn:=by omega
   have hf:g.ay.take m=g.ay:=aeG (by rw[fH.out];exact aej _)
   rw[hf];rw[hf]at hs;clear hm hf hs;go_wp2;go_ret;exact⟨by rw[jT.out];rfl,HB2.out⟩
  |succ q=>
   have hmn:m<rn:=by omega
   have Yl:(m:Int)<rn:=by omega
   have pk:(0:Int)<=(m:Int):=by omega
   have tk:((m:Int)).toNat=m:=by omega
   obtain⟨r,hr⟩: ∃r,g.ay[m]?=some r:=⟨_,aen (by rw[fH.out];exact hmn)⟩
   have hmm:=aew hr;have hBw:=HB2.mono aN.out;obtain⟨b,o,Ap,cp,rfl,hlt,⟨-,-,-,-,d4⟩,rp⟩:=(HR.below hBw (lU.below hBw)).rel hr;obtain⟨pn,hpn⟩:=aj r.props.length;have hen:=ad6 B Ap cp pn r.props _ rp hpn (bF.rs r hmm).ps (zh.out r hmm) (aep aN.out HB2.size) (hpn▸(bF.rs r hmm).pl);rw[hpn]at d4;obtain⟨E,hE⟩:=aj (Gr.eP r.props);obtain⟨S,hS⟩:=aj (Gr.eP ((g.ay.take m).flatMap Gr.R.props));have hs2:=QG g.ay Gr.R.props (m+1);have hes:=ad7 (f:=Gr.R.props) hr;rw[hE]at hen hes;rw[hS]at hs hes⊢;have hall:=jT.out;have hle2:=gI.out;have hSE:T+S+E<=41000*1073741824:=by omega
   have RP:((T+S:Nat):Int)+(E:Int)<=41000*1073741824:=by omega
   obtain⟨Q,hQ⟩:=aj (T+S);rw[hQ]at RP⊢;have xK:=ah hen;have Eu:=ah (show T+Gr.eP ((g.ay.take (m+1)).flatMap Gr.R.props)=Q+E by rw[hes];omega)
   have HK:=ah hm;clear hmn hr hmm hBw hlt rp hpn hen hE hS hs2 hes hall hle2 hSE hQ hs hm;go_wp2_with fail;refine mq8 xK fun w2 hb2=>?_;have HB3:=ah (HB2.trans (hb2.mono HB2.size));have ZG:=ah (ag9.below hb2 ag9.lt);clear hb2 d4 c0 c1;go_wp2
   go_roundg q
   case measure=>omega
   exact⟨m+1,int_eq (by rw[Eu.out];omega),int_eq (by omega),by have:=HK.out;omega,HB3.out,ZG.out⟩
 |succ q=>
  have hkn:k<nn:=by omega
  have dW:(k:Int)<nn:=by omega
  have pk:(0:Int)<=(k:Int):=by omega
  have tk:((k:Int)).toNat=k:=by omega
  obtain⟨r,hr⟩: ∃r,g.nodes[k]?=some r:=⟨_,aen (by rw[aC.out];exact hkn)⟩
  have hmm:=aew hr;have hBw:=HB.mono aN.out;obtain⟨b,o,Al,cl,Ap,cp,rfl,hlt,⟨-,-,d2⟩,-,rp⟩:=(HN.below hBw (lT.below hBw)).node hr;obtain⟨pn,hpn⟩:=aj r.props.length;have hen:=ad6 B Ap cp pn r.props _ rp hpn (bF.ns r hmm).ps (wB.out r hmm) (aep aN.out HB.size) (hpn▸(bF.ns r hmm).pl);rw[hpn]at d2;obtain⟨E,hE⟩:=aj (Gr.eP r.props);obtain⟨S,hS⟩:=aj (Gr.eP ((g.nodes.take k).flatMap Gr.N.props));have hs2:=QG g.nodes Gr.N.props (k+1);have hes:=ad7 (f:=Gr.N.props) hr;rw[hE]at hen hes;rw[hS]at hs hes⊢;have hall:=jT.out;have hle2:=gI.out;have RP:(S:Int)+(E:Int)<=41000*1073741824:=by omega
  have xK:=ah hen;have Eu:=ah (show Gr.eP ((g.nodes.take (k+1)).flatMap Gr.N.props)=S+E from hes)
  have HK:=ah hk;clear hkn hr hmm hBw hlt rp hpn hen hE hS hs2 hes hall hle2 hs hk;go_wp2_with fail;refine mq8 xK fun w2 hb2=>?_;have HB3:=ah (HB.trans (hb2.mono HB.size));have ZG:=ah (dP.below hb2 dP.lt);clear hb2 d2 c0 c1;go_wp2
  go_roundg q
  case measure=>omega
  exact⟨k+1,int_eq (by rw[Eu.out];omega),int_eq (by omega),by have:=HK.out;omega,HB3.out,ZG.out⟩
end Go.Proofs.YtdijgcnlbfgkdaaGreatDoor
